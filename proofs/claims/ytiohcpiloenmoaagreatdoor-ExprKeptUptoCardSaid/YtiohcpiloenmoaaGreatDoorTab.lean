/- The tables of this seat's translation as the engine wants them: the types' shapes and zero values, the functions' numbers by name. Printed by program; every row is checked by Lean. -/
import Derived.Test.YtiohcpiloenmoaaGreatDoorProg
import Derived.Test.YtiohcpiloenmoaaGreatDoorVcRule
import Derived.KernelRfl
set_option linter.all false
set_option maxRecDepth 100000
namespace Go.Proofs.Y
open Go Go.Vc
inductive BT (α : Type) where
  | leaf
  | node (l : BT α) (k : Nat) (x : α) (r : BT α)
def aB6 {α : Type} : BT α → Nat → Option α
  | .leaf, _ => none
  | .node l k x r, t => match Nat.beq t k with
    | true => some x
    | false => match Nat.blt t k with
      | true => aB6 l t
      | false => aB6 r t
def BT.toL {α : Type} : BT α → List (Nat × α)
  | .leaf => []
  | .node l k x r => l.toL ++ (k, x) :: r.toL
theorem pP {α : Type} : ∀ {b : BT α} {t : Nat} {x : α}, aB6 b t = some x → (t, x) ∈ b.toL
  | .leaf, _, _, h => by simp [aB6] at h
  | .node l k y r, t, x, h => by
    simp only [aB6] at h
    split at h
    · rename_i e
      obtain rfl := Nat.eq_of_beq_eq_true e
      cases h; simp [BT.toL]
    · split at h
      · exact aZv _ (pP h)
      · exact aZw _ (aZd _ (pP h))
def aXr : BT TypeDesc := (.node (.node (.node (.node (.node (.node (.node .leaf 1 (.func #[] #[] false) .leaf) 2 (.int .i64) .leaf) 3 (.int .i64) (.node .leaf 4 (.bool) .leaf)) 5 (.int .u8) (.node (.node .leaf 9 (.string) .leaf) 22 (.slice 118) (.node .leaf 24 (.struct #[⟨"Neg", 4, 0, false, "", "", 0⟩, ⟨"Num", 22, 1, false, "", "", 8⟩, ⟨"Den", 22, 2, false, "", "", 32⟩]) .leaf))) 25 (.slice 27) (.node (.node (.node (.node .leaf 27 (.struct #[⟨"Op", 3, 0, false, "", "", 0⟩, ⟨"Arg", 3, 1, false, "", "", 8⟩, ⟨"Num", 24, 2, false, "", "", 16⟩, ⟨"Name", 9, 5, false, "", "", 72⟩, ⟨"Kids", 25, 6, false, "", "", 88⟩]) .leaf) 28 (.slice 33) .leaf) 29 (.func #[27] #[4] false) (.node .leaf 32 (.struct #[⟨"Name", 9, 0, false, "", "", 0⟩, ⟨"Num", 24, 1, false, "", "", 16⟩]) .leaf)) 33 (.struct #[⟨"Name", 9, 0, false, "", "", 0⟩, ⟨"Num", 24, 1, false, "", "", 16⟩]) (.node (.node .leaf 35 (.int .i64) .leaf) 41 (.slice 79) (.node .leaf 49 (.slice 87) .leaf)))) 62 (.array 3 35) (.node (.node (.node (.node (.node .leaf 63 (.slice 72) .leaf) 64 (.slice 72) .leaf) 67 (.slice 118) (.node .leaf 69 (.struct #[⟨"Neg", 4, 0, false, "", "", 0⟩, ⟨"Num", 67, 1, false, "", "", 8⟩, ⟨"Den", 67, 2, false, "", "", 32⟩]) .leaf)) 70 (.slice 77) (.node (.node .leaf 72 (.struct #[⟨"coef", 69, 0, false, "", "inequality/expr", 0⟩, ⟨"factors", 70, 3, false, "", "inequality/expr", 56⟩]) .leaf) 77 (.struct #[⟨"Atom", 9, 0, false, "", "", 0⟩, ⟨"Exp", 3, 1, false, "", "", 16⟩]) (.node .leaf 79 (.struct #[⟨"Coef", 24, 0, false, "", "", 0⟩, ⟨"Factors", 70, 3, false, "", "", 56⟩]) .leaf))) 81 (.map 9 24) (.node (.node (.node .leaf 85 (.map 9 27) .leaf) 87 (.struct #[⟨"Name", 9, 0, false, "", "", 0⟩, ⟨"E", 27, 1, false, "", "", 16⟩]) (.node .leaf 90 (.func #[27] #[27, 4] false) .leaf)) 93 (.slice 118) (.node (.node .leaf 95 (.struct #[⟨"Neg", 4, 0, false, "", "", 0⟩, ⟨"N", 93, 1, false, "", "", 8⟩, ⟨"D", 93, 2, false, "", "", 32⟩]) .leaf) 97 (.slice 145) (.node .leaf 100 (.pointer 152) .leaf))))) 103 (.struct #[⟨"Err", 35, 0, false, "", "", 0⟩, ⟨"At", 3, 1, false, "", "", 8⟩]) (.node (.node (.node (.node (.node (.node .leaf 107 (.func #[29] #[] false) .leaf) 115 (.struct #[⟨"why", 35, 0, false, "", "inequality/expr", 0⟩]) .leaf) 118 (.int .u32) (.node .leaf 119 (.pointer 122) .leaf)) 120 (.slice 5) (.node (.node .leaf 122 (.struct #[⟨"addr", 119, 0, false, "", "strings", 0⟩, ⟨"buf", 120, 1, false, "", "strings", 8⟩]) .leaf) 126 (.func #[69] #[69] false) (.node .leaf 129 (.slice 24) .leaf))) 139 (.int .u64) (.node (.node (.node (.node .leaf 143 (.slice 9) .leaf) 145 (.struct #[⟨"Kind", 3, 0, false, "", "", 0⟩, ⟨"Text", 9, 1, false, "", "", 8⟩, ⟨"At", 3, 2, false, "", "", 24⟩]) .leaf) 150 (.slice 159) (.node .leaf 152 (.struct #[⟨"tokens", 97, 0, false, "", "inequality/syntax", 0⟩, ⟨"next", 3, 1, false, "", "inequality/syntax", 24⟩, ⟨"end", 3, 2, false, "", "inequality/syntax", 32⟩, ⟨"counts", 150, 3, false, "", "inequality/syntax", 40⟩]) .leaf)) 153 (.slice 103) (.node (.node .leaf 159 (.struct #[⟨"at", 3, 0, false, "", "inequality/syntax", 0⟩, ⟨"low", 3, 1, false, "", "inequality/syntax", 8⟩, ⟨"high", 3, 2, false, "", "inequality/syntax", 16⟩, ⟨"n", 3, 3, false, "", "inequality/syntax", 24⟩]) .leaf) 165 (.struct #[⟨"e", 27, 0, false, "", "inequality/expr", 0⟩, ⟨"x", 69, 7, false, "", "inequality/expr", 112⟩, ⟨"is", 4, 10, false, "", "inequality/expr", 168⟩]) (.node .leaf 183 (.pointer 5) .leaf)))) 203 (.array 256 4) (.node (.node (.node (.node (.node .leaf 207 (.pointer 203) .leaf) 218 (.map 3 9) .leaf) 224 (.func #[69, 69] #[69] false) (.node .leaf 225 (.int .u64) .leaf)) 243 (.func #[72, 72] #[3] false) (.node (.node .leaf 245 (.func #[72] #[4] false) .leaf) 246 (.map 9 3) (.node .leaf 247 (.slice 70) .leaf))) 249 (.func #[77, 77] #[3] false) (.node (.node (.node .leaf 256 (.func #[3] #[24] false) .leaf) 273 (.array 24 5) (.node .leaf 278 (.array 32 5) .leaf)) 288 (.slice 3) (.node (.node .leaf 297 (.array 20 139) .leaf) 298 (.array 65 5) (.node .leaf 308 (.array 64 5) .leaf))))))
def aXs : BT (List Value × Nat) := (.node (.node (.node (.node (.node (.node (.node .leaf 1 ([.nilFunc], 8) .leaf) 2 ([.int .i64 0], 8) .leaf) 3 ([.int .i64 0], 8) (.node .leaf 4 ([.bool false], 1) .leaf)) 5 ([.int .u8 0], 1) (.node (.node .leaf 9 ([.string ByteArray.empty], 16) .leaf) 22 ([.slice none 0 0], 24) (.node .leaf 24 ([.bool false, .slice none 0 0, .slice none 0 0], 56) .leaf))) 25 ([.slice none 0 0], 24) (.node (.node (.node (.node .leaf 27 ([.int .i64 0, .int .i64 0, .bool false, .slice none 0 0, .slice none 0 0, .string ByteArray.empty, .slice none 0 0], 112) .leaf) 28 ([.slice none 0 0], 24) .leaf) 29 ([.nilFunc], 8) (.node .leaf 32 ([.string ByteArray.empty, .bool false, .slice none 0 0, .slice none 0 0], 72) .leaf)) 33 ([.string ByteArray.empty, .bool false, .slice none 0 0, .slice none 0 0], 72) (.node (.node .leaf 35 ([.int .i64 0], 8) .leaf) 41 ([.slice none 0 0], 24) (.node .leaf 49 ([.slice none 0 0], 24) .leaf)))) 62 ([.int .i64 0, .int .i64 0, .int .i64 0], 24) (.node (.node (.node (.node (.node .leaf 63 ([.slice none 0 0], 24) .leaf) 64 ([.slice none 0 0], 24) .leaf) 67 ([.slice none 0 0], 24) (.node .leaf 69 ([.bool false, .slice none 0 0, .slice none 0 0], 56) .leaf)) 70 ([.slice none 0 0], 24) (.node (.node .leaf 72 ([.bool false, .slice none 0 0, .slice none 0 0, .slice none 0 0], 80) .leaf) 77 ([.string ByteArray.empty, .int .i64 0], 24) (.node .leaf 79 ([.bool false, .slice none 0 0, .slice none 0 0, .slice none 0 0], 80) .leaf))) 81 ([.map none], 8) (.node (.node (.node .leaf 85 ([.map none], 8) .leaf) 87 ([.string ByteArray.empty, .int .i64 0, .int .i64 0, .bool false, .slice none 0 0, .slice none 0 0, .string ByteArray.empty, .slice none 0 0], 128) (.node .leaf 90 ([.nilFunc], 8) .leaf)) 93 ([.slice none 0 0], 24) (.node (.node .leaf 95 ([.bool false, .slice none 0 0, .slice none 0 0], 56) .leaf) 97 ([.slice none 0 0], 24) (.node .leaf 100 ([.pointer none], 8) .leaf))))) 103 ([.int .i64 0, .int .i64 0], 16) (.node (.node (.node (.node (.node (.node .leaf 107 ([.nilFunc], 8) .leaf) 115 ([.int .i64 0], 8) .leaf) 118 ([.int .u32 0], 4) (.node .leaf 119 ([.pointer none], 8) .leaf)) 120 ([.slice none 0 0], 24) (.node (.node .leaf 122 ([.pointer none, .slice none 0 0], 32) .leaf) 126 ([.nilFunc], 8) (.node .leaf 129 ([.slice none 0 0], 24) .leaf))) 139 ([.int .u64 0], 8) (.node (.node (.node .leaf 143 ([.slice none 0 0], 24) .leaf) 145 ([.int .i64 0, .string ByteArray.empty, .int .i64 0], 32) (.node .leaf 150 ([.slice none 0 0], 24) .leaf)) 152 ([.slice none 0 0, .int .i64 0, .int .i64 0, .slice none 0 0], 64) (.node (.node .leaf 153 ([.slice none 0 0], 24) .leaf) 159 ((.replicate 4 (.int .i64 0)), 32) (.node .leaf 165 ([.int .i64 0, .int .i64 0, .bool false, .slice none 0 0, .slice none 0 0, .string ByteArray.empty, .slice none 0 0, .bool false, .slice none 0 0, .slice none 0 0, .bool false], 176) .leaf)))) 183 ([.pointer none], 8) (.node (.node (.node (.node (.node .leaf 207 ([.pointer none], 8) .leaf) 218 ([.map none], 8) .leaf) 224 ([.nilFunc], 8) (.node .leaf 225 ([.int .u64 0], 8) .leaf)) 243 ([.nilFunc], 8) (.node (.node .leaf 245 ([.nilFunc], 8) .leaf) 246 ([.map none], 8) (.node .leaf 247 ([.slice none 0 0], 24) .leaf))) 249 ([.nilFunc], 8) (.node (.node (.node .leaf 253 ([.pointer none], 8) .leaf) 256 ([.nilFunc], 8) (.node .leaf 273 ((.replicate 24 (.int .u8 0)), 24) .leaf)) 278 ((.replicate 32 (.int .u8 0)), 32) (.node (.node .leaf 288 ([.slice none 0 0], 24) .leaf) 297 ((.replicate 20 (.int .u64 0)), 160) (.node .leaf 308 ((.replicate 64 (.int .u8 0)), 64) .leaf))))))
def fnB : BT Unit := (.node (.node (.node (.node (.node (.node (.node (.node .leaf 3 () .leaf) 4 () (.node .leaf 5 () .leaf)) 6 () (.node (.node .leaf 7 () .leaf) 8 () (.node .leaf 9 () .leaf))) 10 () (.node (.node (.node .leaf 11 () .leaf) 12 () (.node .leaf 13 () .leaf)) 14 () (.node (.node .leaf 15 () .leaf) 16 () (.node .leaf 17 () .leaf)))) 18 () (.node (.node (.node (.node .leaf 19 () .leaf) 20 () (.node .leaf 21 () .leaf)) 22 () (.node (.node .leaf 23 () .leaf) 24 () (.node .leaf 25 () .leaf))) 26 () (.node (.node (.node .leaf 27 () .leaf) 28 () (.node .leaf 29 () .leaf)) 30 () (.node (.node .leaf 31 () .leaf) 32 () .leaf)))) 33 () (.node (.node (.node (.node (.node .leaf 34 () .leaf) 35 () (.node .leaf 36 () .leaf)) 37 () (.node (.node .leaf 38 () .leaf) 39 () (.node .leaf 40 () .leaf))) 41 () (.node (.node (.node .leaf 42 () .leaf) 43 () (.node .leaf 44 () .leaf)) 45 () (.node (.node .leaf 46 () .leaf) 47 () .leaf))) 48 () (.node (.node (.node (.node .leaf 49 () .leaf) 50 () (.node .leaf 51 () .leaf)) 52 () (.node (.node .leaf 53 () .leaf) 54 () (.node .leaf 55 () .leaf))) 56 () (.node (.node (.node .leaf 57 () .leaf) 58 () (.node .leaf 59 () .leaf)) 60 () (.node (.node .leaf 61 () .leaf) 62 () .leaf))))) 63 () (.node (.node (.node (.node (.node (.node .leaf 64 () .leaf) 65 () (.node .leaf 66 () .leaf)) 67 () (.node (.node .leaf 68 () .leaf) 69 () (.node .leaf 70 () .leaf))) 71 () (.node (.node (.node .leaf 72 () .leaf) 73 () (.node .leaf 74 () .leaf)) 75 () (.node (.node .leaf 76 () .leaf) 77 () .leaf))) 78 () (.node (.node (.node (.node .leaf 79 () .leaf) 80 () (.node .leaf 81 () .leaf)) 82 () (.node (.node .leaf 83 () .leaf) 84 () (.node .leaf 85 () .leaf))) 86 () (.node (.node (.node .leaf 87 () .leaf) 88 () (.node .leaf 89 () .leaf)) 90 () (.node (.node .leaf 91 () .leaf) 92 () .leaf)))) 93 () (.node (.node (.node (.node (.node .leaf 94 () .leaf) 95 () (.node .leaf 96 () .leaf)) 97 () (.node (.node .leaf 98 () .leaf) 99 () (.node .leaf 100 () .leaf))) 101 () (.node (.node (.node .leaf 102 () .leaf) 103 () (.node .leaf 104 () .leaf)) 105 () (.node (.node .leaf 106 () .leaf) 107 () .leaf))) 108 () (.node (.node (.node (.node .leaf 109 () .leaf) 110 () (.node .leaf 111 () .leaf)) 112 () (.node (.node .leaf 113 () .leaf) 114 () (.node .leaf 115 () .leaf))) 116 () (.node (.node (.node .leaf 117 () .leaf) 118 () (.node .leaf 119 () .leaf)) 120 () (.node (.node .leaf 121 () .leaf) 122 () .leaf)))))) 123 () (.node (.node (.node (.node (.node (.node (.node .leaf 124 () .leaf) 125 () (.node .leaf 126 () .leaf)) 127 () (.node (.node .leaf 128 () .leaf) 129 () (.node .leaf 130 () .leaf))) 131 () (.node (.node (.node .leaf 132 () .leaf) 133 () (.node .leaf 134 () .leaf)) 135 () (.node (.node .leaf 136 () .leaf) 137 () .leaf))) 138 () (.node (.node (.node (.node .leaf 139 () .leaf) 140 () (.node .leaf 141 () .leaf)) 142 () (.node (.node .leaf 143 () .leaf) 144 () (.node .leaf 145 () .leaf))) 146 () (.node (.node (.node .leaf 147 () .leaf) 148 () (.node .leaf 149 () .leaf)) 150 () (.node (.node .leaf 151 () .leaf) 152 () .leaf)))) 153 () (.node (.node (.node (.node (.node .leaf 154 () .leaf) 155 () (.node .leaf 156 () .leaf)) 162 () (.node (.node .leaf 163 () .leaf) 164 () (.node .leaf 165 () .leaf))) 166 () (.node (.node (.node .leaf 167 () .leaf) 168 () (.node .leaf 169 () .leaf)) 170 () (.node (.node .leaf 171 () .leaf) 172 () .leaf))) 173 () (.node (.node (.node (.node .leaf 174 () .leaf) 175 () (.node .leaf 176 () .leaf)) 177 () (.node (.node .leaf 178 () .leaf) 179 () (.node .leaf 180 () .leaf))) 181 () (.node (.node (.node .leaf 182 () .leaf) 183 () (.node .leaf 184 () .leaf)) 185 () (.node (.node .leaf 186 () .leaf) 187 () .leaf))))) 188 () (.node (.node (.node (.node (.node (.node .leaf 189 () .leaf) 190 () (.node .leaf 191 () .leaf)) 192 () (.node (.node .leaf 193 () .leaf) 194 () (.node .leaf 195 () .leaf))) 196 () (.node (.node (.node .leaf 197 () .leaf) 198 () (.node .leaf 199 () .leaf)) 204 () (.node (.node .leaf 205 () .leaf) 206 () .leaf))) 207 () (.node (.node (.node (.node .leaf 208 () .leaf) 209 () (.node .leaf 210 () .leaf)) 211 () (.node (.node .leaf 212 () .leaf) 213 () (.node .leaf 214 () .leaf))) 215 () (.node (.node (.node .leaf 216 () .leaf) 217 () (.node .leaf 219 () .leaf)) 220 () (.node (.node .leaf 221 () .leaf) 222 () .leaf)))) 223 () (.node (.node (.node (.node (.node .leaf 224 () .leaf) 225 () (.node .leaf 226 () .leaf)) 227 () (.node (.node .leaf 228 () .leaf) 231 () (.node .leaf 232 () .leaf))) 239 () (.node (.node (.node .leaf 240 () .leaf) 241 () (.node .leaf 242 () .leaf)) 243 () (.node (.node .leaf 244 () .leaf) 247 () .leaf))) 248 () (.node (.node (.node (.node .leaf 249 () .leaf) 250 () (.node .leaf 251 () .leaf)) 256 () (.node (.node .leaf 257 () .leaf) 258 () (.node .leaf 267 () .leaf))) 268 () (.node (.node (.node .leaf 269 () .leaf) 270 () (.node .leaf 271 () .leaf)) 272 () (.node (.node .leaf 278 () .leaf) 279 () .leaf)))))))
def BT.All {α : Type} (p : Nat × α → Prop) : BT α → Prop
  | .leaf => True
  | .node l k x r => l.All p ∧ p (k, x) ∧ r.All p
theorem lf {α : Type} {p : Nat × α → Prop} : BT.All p .leaf := trivial
theorem nd {α : Type} {p : Nat × α → Prop} {l r : BT α} {k : Nat} {x : α} (a : l.All p) (b : p (k, x)) (c : r.All p) : BT.All p (.node l k x r) := ⟨a, b, c⟩
theorem BT.all_mem {α : Type} {p : Nat × α → Prop} {y : Nat × α} : ∀ {b : BT α}, b.All p → y ∈ b.toL → p y
  | .leaf, _, h => by cases h
  | .node l k x r, ⟨h1, h2, h3⟩, h => by
    rw [BT.toL] at h
    rcases aZb.1 h with h | h
    · exact BT.all_mem h1 h
    · rcases aZl.1 h with rfl | h
      · exact h2
      · exact BT.all_mem h3 h
noncomputable def T : Tab := { prog := Tryz.prog, und := aB6 aXr, inf := aB6 aXs, fn := fun f => (aB6 fnB f).isSome, room := False }
theorem aXt : aXr.All fun x => Tryz.prog.underlying x.1 = some x.2 := (nd (nd (nd (nd (nd (nd (nd lf Tryz.underlying1 lf) Tryz.underlying2 lf) Tryz.underlying3 (nd lf Tryz.underlying4 lf)) Tryz.underlying5 (nd (nd lf Tryz.underlying9 lf) Tryz.underlying22 (nd lf Tryz.underlying24 lf))) Tryz.underlying25 (nd (nd (nd (nd lf Tryz.underlying27 lf) Tryz.underlying28 lf) Tryz.underlying29 (nd lf Tryz.underlying32 lf)) Tryz.underlying33 (nd (nd lf Tryz.underlying35 lf) Tryz.underlying41 (nd lf Tryz.underlying49 lf)))) Tryz.underlying62 (nd (nd (nd (nd (nd lf Tryz.underlying63 lf) Tryz.underlying64 lf) Tryz.underlying67 (nd lf Tryz.underlying69 lf)) Tryz.underlying70 (nd (nd lf Tryz.underlying72 lf) Tryz.underlying77 (nd lf Tryz.underlying79 lf))) Tryz.underlying81 (nd (nd (nd lf Tryz.underlying85 lf) Tryz.underlying87 (nd lf Tryz.underlying90 lf)) Tryz.underlying93 (nd (nd lf Tryz.underlying95 lf) Tryz.underlying97 (nd lf Tryz.underlying100 lf))))) Tryz.underlying103 (nd (nd (nd (nd (nd (nd lf Tryz.underlying107 lf) Tryz.underlying115 lf) Tryz.underlying118 (nd lf Tryz.underlying119 lf)) Tryz.underlying120 (nd (nd lf Tryz.underlying122 lf) Tryz.underlying126 (nd lf Tryz.underlying129 lf))) Tryz.underlying139 (nd (nd (nd (nd lf Tryz.underlying143 lf) Tryz.underlying145 lf) Tryz.underlying150 (nd lf Tryz.underlying152 lf)) Tryz.underlying153 (nd (nd lf Tryz.underlying159 lf) Tryz.underlying165 (nd lf Tryz.underlying183 lf)))) Tryz.underlying203 (nd (nd (nd (nd (nd lf Tryz.underlying207 lf) Tryz.underlying218 lf) Tryz.underlying224 (nd lf Tryz.underlying225 lf)) Tryz.underlying243 (nd (nd lf Tryz.underlying245 lf) Tryz.underlying246 (nd lf Tryz.underlying247 lf))) Tryz.underlying249 (nd (nd (nd lf Tryz.underlying256 lf) Tryz.underlying273 (nd lf Tryz.underlying278 lf)) Tryz.underlying288 (nd (nd lf Tryz.underlying297 lf) Tryz.underlying298 (nd lf Tryz.underlying308 lf))))))
theorem aXu : aXs.All fun x => ∃ i v, Tryz.prog.info? x.1 = some i ∧ i.zero = some v ∧ v.cells = x.2.1.toArray ∧ i.size = x.2.1.length ∧ i.bytes = x.2.2 := (nd (nd (nd (nd (nd (nd (nd lf ⟨Tryz.t1, _, by kernel_rfl, rfl, rfl, rfl, rfl⟩ lf) ⟨Tryz.t2, _, by kernel_rfl, rfl, rfl, rfl, rfl⟩ lf) ⟨Tryz.t3, _, by kernel_rfl, rfl, rfl, rfl, rfl⟩ (nd lf ⟨Tryz.t4, _, by kernel_rfl, rfl, rfl, rfl, rfl⟩ lf)) ⟨Tryz.t5, _, by kernel_rfl, rfl, rfl, rfl, rfl⟩ (nd (nd lf ⟨Tryz.t9, _, by kernel_rfl, rfl, rfl, rfl, rfl⟩ lf) ⟨Tryz.t22, _, by kernel_rfl, rfl, rfl, rfl, rfl⟩ (nd lf ⟨Tryz.t24, _, by kernel_rfl, rfl, rfl, rfl, rfl⟩ lf))) ⟨Tryz.t25, _, by kernel_rfl, rfl, rfl, rfl, rfl⟩ (nd (nd (nd (nd lf ⟨Tryz.t27, _, by kernel_rfl, rfl, rfl, rfl, rfl⟩ lf) ⟨Tryz.t28, _, by kernel_rfl, rfl, rfl, rfl, rfl⟩ lf) ⟨Tryz.t29, _, by kernel_rfl, rfl, rfl, rfl, rfl⟩ (nd lf ⟨Tryz.t32, _, by kernel_rfl, rfl, rfl, rfl, rfl⟩ lf)) ⟨Tryz.t33, _, by kernel_rfl, rfl, rfl, rfl, rfl⟩ (nd (nd lf ⟨Tryz.t35, _, by kernel_rfl, rfl, rfl, rfl, rfl⟩ lf) ⟨Tryz.t41, _, by kernel_rfl, rfl, rfl, rfl, rfl⟩ (nd lf ⟨Tryz.t49, _, by kernel_rfl, rfl, rfl, rfl, rfl⟩ lf)))) ⟨Tryz.t62, _, by kernel_rfl, rfl, rfl, rfl, rfl⟩ (nd (nd (nd (nd (nd lf ⟨Tryz.t63, _, by kernel_rfl, rfl, rfl, rfl, rfl⟩ lf) ⟨Tryz.t64, _, by kernel_rfl, rfl, rfl, rfl, rfl⟩ lf) ⟨Tryz.t67, _, by kernel_rfl, rfl, rfl, rfl, rfl⟩ (nd lf ⟨Tryz.t69, _, by kernel_rfl, rfl, rfl, rfl, rfl⟩ lf)) ⟨Tryz.t70, _, by kernel_rfl, rfl, rfl, rfl, rfl⟩ (nd (nd lf ⟨Tryz.t72, _, by kernel_rfl, rfl, rfl, rfl, rfl⟩ lf) ⟨Tryz.t77, _, by kernel_rfl, rfl, rfl, rfl, rfl⟩ (nd lf ⟨Tryz.t79, _, by kernel_rfl, rfl, rfl, rfl, rfl⟩ lf))) ⟨Tryz.t81, _, by kernel_rfl, rfl, rfl, rfl, rfl⟩ (nd (nd (nd lf ⟨Tryz.t85, _, by kernel_rfl, rfl, rfl, rfl, rfl⟩ lf) ⟨Tryz.t87, _, by kernel_rfl, rfl, rfl, rfl, rfl⟩ (nd lf ⟨Tryz.t90, _, by kernel_rfl, rfl, rfl, rfl, rfl⟩ lf)) ⟨Tryz.t93, _, by kernel_rfl, rfl, rfl, rfl, rfl⟩ (nd (nd lf ⟨Tryz.t95, _, by kernel_rfl, rfl, rfl, rfl, rfl⟩ lf) ⟨Tryz.t97, _, by kernel_rfl, rfl, rfl, rfl, rfl⟩ (nd lf ⟨Tryz.t100, _, by kernel_rfl, rfl, rfl, rfl, rfl⟩ lf))))) ⟨Tryz.t103, _, by kernel_rfl, rfl, rfl, rfl, rfl⟩ (nd (nd (nd (nd (nd (nd lf ⟨Tryz.t107, _, by kernel_rfl, rfl, rfl, rfl, rfl⟩ lf) ⟨Tryz.t115, _, by kernel_rfl, rfl, rfl, rfl, rfl⟩ lf) ⟨Tryz.t118, _, by kernel_rfl, rfl, rfl, rfl, rfl⟩ (nd lf ⟨Tryz.t119, _, by kernel_rfl, rfl, rfl, rfl, rfl⟩ lf)) ⟨Tryz.t120, _, by kernel_rfl, rfl, rfl, rfl, rfl⟩ (nd (nd lf ⟨Tryz.t122, _, by kernel_rfl, rfl, rfl, rfl, rfl⟩ lf) ⟨Tryz.t126, _, by kernel_rfl, rfl, rfl, rfl, rfl⟩ (nd lf ⟨Tryz.t129, _, by kernel_rfl, rfl, rfl, rfl, rfl⟩ lf))) ⟨Tryz.t139, _, by kernel_rfl, rfl, rfl, rfl, rfl⟩ (nd (nd (nd lf ⟨Tryz.t143, _, by kernel_rfl, rfl, rfl, rfl, rfl⟩ lf) ⟨Tryz.t145, _, by kernel_rfl, rfl, rfl, rfl, rfl⟩ (nd lf ⟨Tryz.t150, _, by kernel_rfl, rfl, rfl, rfl, rfl⟩ lf)) ⟨Tryz.t152, _, by kernel_rfl, rfl, rfl, rfl, rfl⟩ (nd (nd lf ⟨Tryz.t153, _, by kernel_rfl, rfl, rfl, rfl, rfl⟩ lf) ⟨Tryz.t159, _, by kernel_rfl, rfl, rfl, rfl, rfl⟩ (nd lf ⟨Tryz.t165, _, by kernel_rfl, rfl, rfl, rfl, rfl⟩ lf)))) ⟨Tryz.t183, _, by kernel_rfl, rfl, rfl, rfl, rfl⟩ (nd (nd (nd (nd (nd lf ⟨Tryz.t207, _, by kernel_rfl, rfl, rfl, rfl, rfl⟩ lf) ⟨Tryz.t218, _, by kernel_rfl, rfl, rfl, rfl, rfl⟩ lf) ⟨Tryz.t224, _, by kernel_rfl, rfl, rfl, rfl, rfl⟩ (nd lf ⟨Tryz.t225, _, by kernel_rfl, rfl, rfl, rfl, rfl⟩ lf)) ⟨Tryz.t243, _, by kernel_rfl, rfl, rfl, rfl, rfl⟩ (nd (nd lf ⟨Tryz.t245, _, by kernel_rfl, rfl, rfl, rfl, rfl⟩ lf) ⟨Tryz.t246, _, by kernel_rfl, rfl, rfl, rfl, rfl⟩ (nd lf ⟨Tryz.t247, _, by kernel_rfl, rfl, rfl, rfl, rfl⟩ lf))) ⟨Tryz.t249, _, by kernel_rfl, rfl, rfl, rfl, rfl⟩ (nd (nd (nd lf ⟨Tryz.t253, _, by kernel_rfl, rfl, rfl, rfl, rfl⟩ lf) ⟨Tryz.t256, _, by kernel_rfl, rfl, rfl, rfl, rfl⟩ (nd lf ⟨Tryz.t273, _, by kernel_rfl, rfl, rfl, rfl, rfl⟩ lf)) ⟨Tryz.t278, _, by kernel_rfl, rfl, rfl, rfl, rfl⟩ (nd (nd lf ⟨Tryz.t288, _, by kernel_rfl, rfl, rfl, rfl, rfl⟩ lf) ⟨Tryz.t297, _, by kernel_rfl, rfl, rfl, rfl, rfl⟩ (nd lf ⟨Tryz.t308, _, by kernel_rfl, rfl, rfl, rfl, rfl⟩ lf))))))
theorem aYq : fnB.All fun x => ∀ args w, (callFunc x.1 args).run Tryz.prog w = .ok (.enter x.1 args) w := (nd (nd (nd (nd (nd (nd (nd (nd lf Tryz.call3 lf) Tryz.call4 (nd lf Tryz.call5 lf)) Tryz.call6 (nd (nd lf Tryz.call7 lf) Tryz.call8 (nd lf Tryz.call9 lf))) Tryz.call10 (nd (nd (nd lf Tryz.call11 lf) Tryz.call12 (nd lf Tryz.call13 lf)) Tryz.call14 (nd (nd lf Tryz.call15 lf) Tryz.call16 (nd lf Tryz.call17 lf)))) Tryz.call18 (nd (nd (nd (nd lf Tryz.call19 lf) Tryz.call20 (nd lf Tryz.call21 lf)) Tryz.call22 (nd (nd lf Tryz.call23 lf) Tryz.call24 (nd lf Tryz.call25 lf))) Tryz.call26 (nd (nd (nd lf Tryz.call27 lf) Tryz.call28 (nd lf Tryz.call29 lf)) Tryz.call30 (nd (nd lf Tryz.call31 lf) Tryz.call32 lf)))) Tryz.call33 (nd (nd (nd (nd (nd lf Tryz.call34 lf) Tryz.call35 (nd lf Tryz.call36 lf)) Tryz.call37 (nd (nd lf Tryz.call38 lf) Tryz.call39 (nd lf Tryz.call40 lf))) Tryz.call41 (nd (nd (nd lf Tryz.call42 lf) Tryz.call43 (nd lf Tryz.call44 lf)) Tryz.call45 (nd (nd lf Tryz.call46 lf) Tryz.call47 lf))) Tryz.call48 (nd (nd (nd (nd lf Tryz.call49 lf) Tryz.call50 (nd lf Tryz.call51 lf)) Tryz.call52 (nd (nd lf Tryz.call53 lf) Tryz.call54 (nd lf Tryz.call55 lf))) Tryz.call56 (nd (nd (nd lf Tryz.call57 lf) Tryz.call58 (nd lf Tryz.call59 lf)) Tryz.call60 (nd (nd lf Tryz.call61 lf) Tryz.call62 lf))))) Tryz.call63 (nd (nd (nd (nd (nd (nd lf Tryz.call64 lf) Tryz.call65 (nd lf Tryz.call66 lf)) Tryz.call67 (nd (nd lf Tryz.call68 lf) Tryz.call69 (nd lf Tryz.call70 lf))) Tryz.call71 (nd (nd (nd lf Tryz.call72 lf) Tryz.call73 (nd lf Tryz.call74 lf)) Tryz.call75 (nd (nd lf Tryz.call76 lf) Tryz.call77 lf))) Tryz.call78 (nd (nd (nd (nd lf Tryz.call79 lf) Tryz.call80 (nd lf Tryz.call81 lf)) Tryz.call82 (nd (nd lf Tryz.call83 lf) Tryz.call84 (nd lf Tryz.call85 lf))) Tryz.call86 (nd (nd (nd lf Tryz.call87 lf) Tryz.call88 (nd lf Tryz.call89 lf)) Tryz.call90 (nd (nd lf Tryz.call91 lf) Tryz.call92 lf)))) Tryz.call93 (nd (nd (nd (nd (nd lf Tryz.call94 lf) Tryz.call95 (nd lf Tryz.call96 lf)) Tryz.call97 (nd (nd lf Tryz.call98 lf) Tryz.call99 (nd lf Tryz.call100 lf))) Tryz.call101 (nd (nd (nd lf Tryz.call102 lf) Tryz.call103 (nd lf Tryz.call104 lf)) Tryz.call105 (nd (nd lf Tryz.call106 lf) Tryz.call107 lf))) Tryz.call108 (nd (nd (nd (nd lf Tryz.call109 lf) Tryz.call110 (nd lf Tryz.call111 lf)) Tryz.call112 (nd (nd lf Tryz.call113 lf) Tryz.call114 (nd lf Tryz.call115 lf))) Tryz.call116 (nd (nd (nd lf Tryz.call117 lf) Tryz.call118 (nd lf Tryz.call119 lf)) Tryz.call120 (nd (nd lf Tryz.call121 lf) Tryz.call122 lf)))))) Tryz.call123 (nd (nd (nd (nd (nd (nd (nd lf Tryz.call124 lf) Tryz.call125 (nd lf Tryz.call126 lf)) Tryz.call127 (nd (nd lf Tryz.call128 lf) Tryz.call129 (nd lf Tryz.call130 lf))) Tryz.call131 (nd (nd (nd lf Tryz.call132 lf) Tryz.call133 (nd lf Tryz.call134 lf)) Tryz.call135 (nd (nd lf Tryz.call136 lf) Tryz.call137 lf))) Tryz.call138 (nd (nd (nd (nd lf Tryz.call139 lf) Tryz.call140 (nd lf Tryz.call141 lf)) Tryz.call142 (nd (nd lf Tryz.call143 lf) Tryz.call144 (nd lf Tryz.call145 lf))) Tryz.call146 (nd (nd (nd lf Tryz.call147 lf) Tryz.call148 (nd lf Tryz.call149 lf)) Tryz.call150 (nd (nd lf Tryz.call151 lf) Tryz.call152 lf)))) Tryz.call153 (nd (nd (nd (nd (nd lf Tryz.call154 lf) Tryz.call155 (nd lf Tryz.call156 lf)) Tryz.call162 (nd (nd lf Tryz.call163 lf) Tryz.call164 (nd lf Tryz.call165 lf))) Tryz.call166 (nd (nd (nd lf Tryz.call167 lf) Tryz.call168 (nd lf Tryz.call169 lf)) Tryz.call170 (nd (nd lf Tryz.call171 lf) Tryz.call172 lf))) Tryz.call173 (nd (nd (nd (nd lf Tryz.call174 lf) Tryz.call175 (nd lf Tryz.call176 lf)) Tryz.call177 (nd (nd lf Tryz.call178 lf) Tryz.call179 (nd lf Tryz.call180 lf))) Tryz.call181 (nd (nd (nd lf Tryz.call182 lf) Tryz.call183 (nd lf Tryz.call184 lf)) Tryz.call185 (nd (nd lf Tryz.call186 lf) Tryz.call187 lf))))) Tryz.call188 (nd (nd (nd (nd (nd (nd lf Tryz.call189 lf) Tryz.call190 (nd lf Tryz.call191 lf)) Tryz.call192 (nd (nd lf Tryz.call193 lf) Tryz.call194 (nd lf Tryz.call195 lf))) Tryz.call196 (nd (nd (nd lf Tryz.call197 lf) Tryz.call198 (nd lf Tryz.call199 lf)) Tryz.call204 (nd (nd lf Tryz.call205 lf) Tryz.call206 lf))) Tryz.call207 (nd (nd (nd (nd lf Tryz.call208 lf) Tryz.call209 (nd lf Tryz.call210 lf)) Tryz.call211 (nd (nd lf Tryz.call212 lf) Tryz.call213 (nd lf Tryz.call214 lf))) Tryz.call215 (nd (nd (nd lf Tryz.call216 lf) Tryz.call217 (nd lf Tryz.call219 lf)) Tryz.call220 (nd (nd lf Tryz.call221 lf) Tryz.call222 lf)))) Tryz.call223 (nd (nd (nd (nd (nd lf Tryz.call224 lf) Tryz.call225 (nd lf Tryz.call226 lf)) Tryz.call227 (nd (nd lf Tryz.call228 lf) Tryz.call231 (nd lf Tryz.call232 lf))) Tryz.call239 (nd (nd (nd lf Tryz.call240 lf) Tryz.call241 (nd lf Tryz.call242 lf)) Tryz.call243 (nd (nd lf Tryz.call244 lf) Tryz.call247 lf))) Tryz.call248 (nd (nd (nd (nd lf Tryz.call249 lf) Tryz.call250 (nd lf Tryz.call251 lf)) Tryz.call256 (nd (nd lf Tryz.call257 lf) Tryz.call258 (nd lf Tryz.call267 lf))) Tryz.call268 (nd (nd (nd lf Tryz.call269 lf) Tryz.call270 (nd lf Tryz.call271 lf)) Tryz.call272 (nd (nd lf Tryz.call278 lf) Tryz.call279 lf)))))))
theorem aSv : Tryz.prog.follows .mixedOrders = true := by kernel_rfl
theorem ok : T.Ok where
  und t d h := BT.all_mem (y := (t, d)) aXt (pP h)
  inf t z n h := BT.all_mem (y := (t, (z, n))) aXu (pP h)
  fn f h args w := by
    obtain ⟨x, hx⟩ := Option.isSome_iff_exists.1 (show (aB6 fnB f).isSome = true from h)
    exact BT.all_mem aYq (pP hx) args w
  mixed := aSv
abbrev F.q3 : Nat := 3
theorem D.q3 : T.prog.funcs[F.q3]? = some Tryz.f3 := Tryz.func3
abbrev F.q4 : Nat := 4
theorem D.q4 : T.prog.funcs[F.q4]? = some Tryz.f4 := Tryz.func4
abbrev F.q5 : Nat := 5
theorem D.q5 : T.prog.funcs[F.q5]? = some Tryz.f5 := Tryz.func5
abbrev F.q6 : Nat := 6
theorem D.q6 : T.prog.funcs[F.q6]? = some Tryz.f6 := Tryz.func6
abbrev F.q7 : Nat := 7
theorem D.q7 : T.prog.funcs[F.q7]? = some Tryz.f7 := Tryz.func7
abbrev F.q8 : Nat := 8
theorem D.q8 : T.prog.funcs[F.q8]? = some Tryz.f8 := Tryz.func8
abbrev F.q9 : Nat := 9
theorem D.q9 : T.prog.funcs[F.q9]? = some Tryz.f9 := Tryz.func9
abbrev F.q10 : Nat := 10
theorem D.q10 : T.prog.funcs[F.q10]? = some Tryz.f10 := Tryz.func10
abbrev F.q11 : Nat := 11
theorem D.q11 : T.prog.funcs[F.q11]? = some Tryz.f11 := Tryz.func11
abbrev F.q12 : Nat := 12
theorem D.q12 : T.prog.funcs[F.q12]? = some Tryz.f12 := Tryz.func12
abbrev F.q13 : Nat := 13
theorem D.q13 : T.prog.funcs[F.q13]? = some Tryz.f13 := Tryz.func13
abbrev F.q14 : Nat := 14
theorem D.q14 : T.prog.funcs[F.q14]? = some Tryz.f14 := Tryz.func14
abbrev F.q15 : Nat := 15
theorem D.q15 : T.prog.funcs[F.q15]? = some Tryz.f15 := Tryz.func15
abbrev F.q16 : Nat := 16
theorem D.q16 : T.prog.funcs[F.q16]? = some Tryz.f16 := Tryz.func16
abbrev F.q17 : Nat := 17
theorem D.q17 : T.prog.funcs[F.q17]? = some Tryz.f17 := Tryz.func17
abbrev F.q18 : Nat := 18
theorem D.q18 : T.prog.funcs[F.q18]? = some Tryz.f18 := Tryz.func18
abbrev F.q19 : Nat := 19
theorem D.q19 : T.prog.funcs[F.q19]? = some Tryz.f19 := Tryz.func19
abbrev F.q20 : Nat := 20
theorem D.q20 : T.prog.funcs[F.q20]? = some Tryz.f20 := Tryz.func20
abbrev F.q21 : Nat := 21
theorem D.q21 : T.prog.funcs[F.q21]? = some Tryz.f21 := Tryz.func21
abbrev F.q22 : Nat := 22
theorem D.q22 : T.prog.funcs[F.q22]? = some Tryz.f22 := Tryz.func22
abbrev F.q23 : Nat := 23
theorem D.q23 : T.prog.funcs[F.q23]? = some Tryz.f23 := Tryz.func23
abbrev F.q24 : Nat := 24
theorem D.q24 : T.prog.funcs[F.q24]? = some Tryz.f24 := Tryz.func24
abbrev F.q25 : Nat := 25
abbrev F.q26 : Nat := 26
theorem D.q26 : T.prog.funcs[F.q26]? = some Tryz.f26 := Tryz.func26
abbrev F.q27 : Nat := 27
theorem D.q27 : T.prog.funcs[F.q27]? = some Tryz.f27 := Tryz.func27
abbrev F.q28 : Nat := 28
theorem D.q28 : T.prog.funcs[F.q28]? = some Tryz.f28 := Tryz.func28
abbrev F.q29 : Nat := 29
abbrev F.q30 : Nat := 30
theorem D.q30 : T.prog.funcs[F.q30]? = some Tryz.f30 := Tryz.func30
abbrev F.q31 : Nat := 31
theorem D.q31 : T.prog.funcs[F.q31]? = some Tryz.f31 := Tryz.func31
abbrev F.q32 : Nat := 32
theorem D.q32 : T.prog.funcs[F.q32]? = some Tryz.f32 := Tryz.func32
abbrev F.q33 : Nat := 33
theorem D.q33 : T.prog.funcs[F.q33]? = some Tryz.f33 := Tryz.func33
abbrev F.q34 : Nat := 34
theorem D.q34 : T.prog.funcs[F.q34]? = some Tryz.f34 := Tryz.func34
abbrev F.q35 : Nat := 35
theorem D.q35 : T.prog.funcs[F.q35]? = some Tryz.f35 := Tryz.func35
abbrev F.q36 : Nat := 36
theorem D.q36 : T.prog.funcs[F.q36]? = some Tryz.f36 := Tryz.func36
abbrev F.q37 : Nat := 37
theorem D.q37 : T.prog.funcs[F.q37]? = some Tryz.f37 := Tryz.func37
abbrev F.q38 : Nat := 38
theorem D.q38 : T.prog.funcs[F.q38]? = some Tryz.f38 := Tryz.func38
abbrev F.q39 : Nat := 39
theorem D.q39 : T.prog.funcs[F.q39]? = some Tryz.f39 := Tryz.func39
abbrev F.q40 : Nat := 40
theorem D.q40 : T.prog.funcs[F.q40]? = some Tryz.f40 := Tryz.func40
abbrev F.q41 : Nat := 41
theorem D.q41 : T.prog.funcs[F.q41]? = some Tryz.f41 := Tryz.func41
abbrev F.q42 : Nat := 42
theorem D.q42 : T.prog.funcs[F.q42]? = some Tryz.f42 := Tryz.func42
abbrev F.q43 : Nat := 43
theorem D.q43 : T.prog.funcs[F.q43]? = some Tryz.f43 := Tryz.func43
abbrev F.q44 : Nat := 44
abbrev F.q45 : Nat := 45
theorem D.q45 : T.prog.funcs[F.q45]? = some Tryz.f45 := Tryz.func45
abbrev F.q46 : Nat := 46
theorem D.q46 : T.prog.funcs[F.q46]? = some Tryz.f46 := Tryz.func46
abbrev F.q47 : Nat := 47
theorem D.q47 : T.prog.funcs[F.q47]? = some Tryz.f47 := Tryz.func47
abbrev F.q48 : Nat := 48
theorem D.q48 : T.prog.funcs[F.q48]? = some Tryz.f48 := Tryz.func48
abbrev F.q49 : Nat := 49
theorem D.q49 : T.prog.funcs[F.q49]? = some Tryz.f49 := Tryz.func49
abbrev F.q50 : Nat := 50
theorem D.q50 : T.prog.funcs[F.q50]? = some Tryz.f50 := Tryz.func50
abbrev F.q51 : Nat := 51
theorem D.q51 : T.prog.funcs[F.q51]? = some Tryz.f51 := Tryz.func51
abbrev F.q52 : Nat := 52
theorem D.q52 : T.prog.funcs[F.q52]? = some Tryz.f52 := Tryz.func52
abbrev F.q53 : Nat := 53
theorem D.q53 : T.prog.funcs[F.q53]? = some Tryz.f53 := Tryz.func53
abbrev F.q54 : Nat := 54
abbrev F.q55 : Nat := 55
abbrev F.q56 : Nat := 56
theorem D.q56 : T.prog.funcs[F.q56]? = some Tryz.f56 := Tryz.func56
abbrev F.q57 : Nat := 57
theorem D.q57 : T.prog.funcs[F.q57]? = some Tryz.f57 := Tryz.func57
abbrev F.q58 : Nat := 58
theorem D.q58 : T.prog.funcs[F.q58]? = some Tryz.f58 := Tryz.func58
abbrev F.q59 : Nat := 59
theorem D.q59 : T.prog.funcs[F.q59]? = some Tryz.f59 := Tryz.func59
abbrev F.q60 : Nat := 60
theorem D.q60 : T.prog.funcs[F.q60]? = some Tryz.f60 := Tryz.func60
abbrev F.q61 : Nat := 61
abbrev F.q62 : Nat := 62
theorem D.q62 : T.prog.funcs[F.q62]? = some Tryz.f62 := Tryz.func62
abbrev F.q63 : Nat := 63
theorem D.q63 : T.prog.funcs[F.q63]? = some Tryz.f63 := Tryz.func63
abbrev F.q64 : Nat := 64
theorem D.q64 : T.prog.funcs[F.q64]? = some Tryz.f64 := Tryz.func64
abbrev F.q65 : Nat := 65
theorem D.q65 : T.prog.funcs[F.q65]? = some Tryz.f65 := Tryz.func65
abbrev F.q66 : Nat := 66
theorem D.q66 : T.prog.funcs[F.q66]? = some Tryz.f66 := Tryz.func66
abbrev F.q67 : Nat := 67
theorem D.q67 : T.prog.funcs[F.q67]? = some Tryz.f67 := Tryz.func67
abbrev F.q68 : Nat := 68
theorem D.q68 : T.prog.funcs[F.q68]? = some Tryz.f68 := Tryz.func68
abbrev F.q69 : Nat := 69
theorem D.q69 : T.prog.funcs[F.q69]? = some Tryz.f69 := Tryz.func69
abbrev F.q70 : Nat := 70
theorem D.q70 : T.prog.funcs[F.q70]? = some Tryz.f70 := Tryz.func70
abbrev F.q71 : Nat := 71
theorem D.q71 : T.prog.funcs[F.q71]? = some Tryz.f71 := Tryz.func71
abbrev F.q72 : Nat := 72
theorem D.q72 : T.prog.funcs[F.q72]? = some Tryz.f72 := Tryz.func72
abbrev F.q73 : Nat := 73
theorem D.q73 : T.prog.funcs[F.q73]? = some Tryz.f73 := Tryz.func73
abbrev F.q74 : Nat := 74
theorem D.q74 : T.prog.funcs[F.q74]? = some Tryz.f74 := Tryz.func74
abbrev F.q75 : Nat := 75
theorem D.q75 : T.prog.funcs[F.q75]? = some Tryz.f75 := Tryz.func75
abbrev F.q76 : Nat := 76
theorem D.q76 : T.prog.funcs[F.q76]? = some Tryz.f76 := Tryz.func76
abbrev F.q77 : Nat := 77
theorem D.q77 : T.prog.funcs[F.q77]? = some Tryz.f77 := Tryz.func77
abbrev F.q78 : Nat := 78
theorem D.q78 : T.prog.funcs[F.q78]? = some Tryz.f78 := Tryz.func78
abbrev F.q79 : Nat := 79
theorem D.q79 : T.prog.funcs[F.q79]? = some Tryz.f79 := Tryz.func79
abbrev F.q80 : Nat := 80
theorem D.q80 : T.prog.funcs[F.q80]? = some Tryz.f80 := Tryz.func80
abbrev F.q81 : Nat := 81
theorem D.q81 : T.prog.funcs[F.q81]? = some Tryz.f81 := Tryz.func81
abbrev F.q82 : Nat := 82
theorem D.q82 : T.prog.funcs[F.q82]? = some Tryz.f82 := Tryz.func82
abbrev F.q83 : Nat := 83
theorem D.q83 : T.prog.funcs[F.q83]? = some Tryz.f83 := Tryz.func83
abbrev F.q84 : Nat := 84
theorem D.q84 : T.prog.funcs[F.q84]? = some Tryz.f84 := Tryz.func84
abbrev F.q85 : Nat := 85
theorem D.q85 : T.prog.funcs[F.q85]? = some Tryz.f85 := Tryz.func85
abbrev F.q86 : Nat := 86
theorem D.q86 : T.prog.funcs[F.q86]? = some Tryz.f86 := Tryz.func86
abbrev F.q87 : Nat := 87
theorem D.q87 : T.prog.funcs[F.q87]? = some Tryz.f87 := Tryz.func87
abbrev F.q88 : Nat := 88
theorem D.q88 : T.prog.funcs[F.q88]? = some Tryz.f88 := Tryz.func88
abbrev F.q89 : Nat := 89
theorem D.q89 : T.prog.funcs[F.q89]? = some Tryz.f89 := Tryz.func89
abbrev F.q90 : Nat := 90
abbrev F.q91 : Nat := 91
theorem D.q91 : T.prog.funcs[F.q91]? = some Tryz.f91 := Tryz.func91
abbrev F.q92 : Nat := 92
theorem D.q92 : T.prog.funcs[F.q92]? = some Tryz.f92 := Tryz.func92
abbrev F.q93 : Nat := 93
theorem D.q93 : T.prog.funcs[F.q93]? = some Tryz.f93 := Tryz.func93
abbrev F.q94 : Nat := 94
theorem D.q94 : T.prog.funcs[F.q94]? = some Tryz.f94 := Tryz.func94
abbrev F.q95 : Nat := 95
theorem D.q95 : T.prog.funcs[F.q95]? = some Tryz.f95 := Tryz.func95
abbrev F.q96 : Nat := 96
theorem D.q96 : T.prog.funcs[F.q96]? = some Tryz.f96 := Tryz.func96
abbrev F.q97 : Nat := 97
theorem D.q97 : T.prog.funcs[F.q97]? = some Tryz.f97 := Tryz.func97
abbrev F.q98 : Nat := 98
theorem D.q98 : T.prog.funcs[F.q98]? = some Tryz.f98 := Tryz.func98
abbrev F.q99 : Nat := 99
theorem D.q99 : T.prog.funcs[F.q99]? = some Tryz.f99 := Tryz.func99
abbrev F.q100 : Nat := 100
theorem D.q100 : T.prog.funcs[F.q100]? = some Tryz.f100 := Tryz.func100
abbrev F.q101 : Nat := 101
theorem D.q101 : T.prog.funcs[F.q101]? = some Tryz.f101 := Tryz.func101
abbrev F.q102 : Nat := 102
theorem D.q102 : T.prog.funcs[F.q102]? = some Tryz.f102 := Tryz.func102
abbrev F.q103 : Nat := 103
theorem D.q103 : T.prog.funcs[F.q103]? = some Tryz.f103 := Tryz.func103
abbrev F.q104 : Nat := 104
theorem D.q104 : T.prog.funcs[F.q104]? = some Tryz.f104 := Tryz.func104
abbrev F.q105 : Nat := 105
theorem D.q105 : T.prog.funcs[F.q105]? = some Tryz.f105 := Tryz.func105
abbrev F.q106 : Nat := 106
theorem D.q106 : T.prog.funcs[F.q106]? = some Tryz.f106 := Tryz.func106
abbrev F.q107 : Nat := 107
theorem D.q107 : T.prog.funcs[F.q107]? = some Tryz.f107 := Tryz.func107
abbrev F.q108 : Nat := 108
theorem D.q108 : T.prog.funcs[F.q108]? = some Tryz.f108 := Tryz.func108
abbrev F.q109 : Nat := 109
theorem D.q109 : T.prog.funcs[F.q109]? = some Tryz.f109 := Tryz.func109
abbrev F.q110 : Nat := 110
abbrev F.q111 : Nat := 111
abbrev F.q112 : Nat := 112
theorem D.q112 : T.prog.funcs[F.q112]? = some Tryz.f112 := Tryz.func112
abbrev F.q113 : Nat := 113
theorem D.q113 : T.prog.funcs[F.q113]? = some Tryz.f113 := Tryz.func113
abbrev F.q114 : Nat := 114
theorem D.q114 : T.prog.funcs[F.q114]? = some Tryz.f114 := Tryz.func114
abbrev F.q115 : Nat := 115
theorem D.q115 : T.prog.funcs[F.q115]? = some Tryz.f115 := Tryz.func115
abbrev F.q116 : Nat := 116
theorem D.q116 : T.prog.funcs[F.q116]? = some Tryz.f116 := Tryz.func116
abbrev F.q117 : Nat := 117
theorem D.q117 : T.prog.funcs[F.q117]? = some Tryz.f117 := Tryz.func117
abbrev F.q118 : Nat := 118
theorem D.q118 : T.prog.funcs[F.q118]? = some Tryz.f118 := Tryz.func118
abbrev F.q119 : Nat := 119
theorem D.q119 : T.prog.funcs[F.q119]? = some Tryz.f119 := Tryz.func119
abbrev F.q120 : Nat := 120
theorem D.q120 : T.prog.funcs[F.q120]? = some Tryz.f120 := Tryz.func120
abbrev F.q121 : Nat := 121
theorem D.q121 : T.prog.funcs[F.q121]? = some Tryz.f121 := Tryz.func121
abbrev F.q122 : Nat := 122
abbrev F.q123 : Nat := 123
theorem D.q123 : T.prog.funcs[F.q123]? = some Tryz.f123 := Tryz.func123
abbrev F.q124 : Nat := 124
theorem D.q124 : T.prog.funcs[F.q124]? = some Tryz.f124 := Tryz.func124
abbrev F.q125 : Nat := 125
theorem D.q125 : T.prog.funcs[F.q125]? = some Tryz.f125 := Tryz.func125
abbrev F.q126 : Nat := 126
theorem D.q126 : T.prog.funcs[F.q126]? = some Tryz.f126 := Tryz.func126
abbrev F.q127 : Nat := 127
theorem D.q127 : T.prog.funcs[F.q127]? = some Tryz.f127 := Tryz.func127
abbrev F.q128 : Nat := 128
theorem D.q128 : T.prog.funcs[F.q128]? = some Tryz.f128 := Tryz.func128
abbrev F.q129 : Nat := 129
theorem D.q129 : T.prog.funcs[F.q129]? = some Tryz.f129 := Tryz.func129
abbrev F.q130 : Nat := 130
theorem D.q130 : T.prog.funcs[F.q130]? = some Tryz.f130 := Tryz.func130
abbrev F.q131 : Nat := 131
theorem D.q131 : T.prog.funcs[F.q131]? = some Tryz.f131 := Tryz.func131
abbrev F.q132 : Nat := 132
theorem D.q132 : T.prog.funcs[F.q132]? = some Tryz.f132 := Tryz.func132
abbrev F.q133 : Nat := 133
theorem D.q133 : T.prog.funcs[F.q133]? = some Tryz.f133 := Tryz.func133
abbrev F.q134 : Nat := 134
theorem D.q134 : T.prog.funcs[F.q134]? = some Tryz.f134 := Tryz.func134
abbrev F.q135 : Nat := 135
theorem D.q135 : T.prog.funcs[F.q135]? = some Tryz.f135 := Tryz.func135
abbrev F.q136 : Nat := 136
theorem D.q136 : T.prog.funcs[F.q136]? = some Tryz.f136 := Tryz.func136
abbrev F.q137 : Nat := 137
theorem D.q137 : T.prog.funcs[F.q137]? = some Tryz.f137 := Tryz.func137
abbrev F.q138 : Nat := 138
theorem D.q138 : T.prog.funcs[F.q138]? = some Tryz.f138 := Tryz.func138
abbrev F.q139 : Nat := 139
theorem D.q139 : T.prog.funcs[F.q139]? = some Tryz.f139 := Tryz.func139
abbrev F.q140 : Nat := 140
theorem D.q140 : T.prog.funcs[F.q140]? = some Tryz.f140 := Tryz.func140
abbrev F.q141 : Nat := 141
theorem D.q141 : T.prog.funcs[F.q141]? = some Tryz.f141 := Tryz.func141
abbrev F.q142 : Nat := 142
theorem D.q142 : T.prog.funcs[F.q142]? = some Tryz.f142 := Tryz.func142
abbrev F.q143 : Nat := 143
theorem D.q143 : T.prog.funcs[F.q143]? = some Tryz.f143 := Tryz.func143
abbrev F.q144 : Nat := 144
theorem D.q144 : T.prog.funcs[F.q144]? = some Tryz.f144 := Tryz.func144
abbrev F.q145 : Nat := 145
theorem D.q145 : T.prog.funcs[F.q145]? = some Tryz.f145 := Tryz.func145
abbrev F.q146 : Nat := 146
theorem D.q146 : T.prog.funcs[F.q146]? = some Tryz.f146 := Tryz.func146
abbrev F.q147 : Nat := 147
theorem D.q147 : T.prog.funcs[F.q147]? = some Tryz.f147 := Tryz.func147
abbrev F.q148 : Nat := 148
theorem D.q148 : T.prog.funcs[F.q148]? = some Tryz.f148 := Tryz.func148
abbrev F.q149 : Nat := 149
theorem D.q149 : T.prog.funcs[F.q149]? = some Tryz.f149 := Tryz.func149
abbrev F.q150 : Nat := 150
theorem D.q150 : T.prog.funcs[F.q150]? = some Tryz.f150 := Tryz.func150
abbrev F.q151 : Nat := 151
theorem D.q151 : T.prog.funcs[F.q151]? = some Tryz.f151 := Tryz.func151
abbrev F.q152 : Nat := 152
theorem D.q152 : T.prog.funcs[F.q152]? = some Tryz.f152 := Tryz.func152
abbrev F.q153 : Nat := 153
theorem D.q153 : T.prog.funcs[F.q153]? = some Tryz.f153 := Tryz.func153
abbrev F.q154 : Nat := 154
theorem D.q154 : T.prog.funcs[F.q154]? = some Tryz.f154 := Tryz.func154
abbrev F.q155 : Nat := 155
theorem D.q155 : T.prog.funcs[F.q155]? = some Tryz.f155 := Tryz.func155
abbrev F.q156 : Nat := 156
theorem D.q156 : T.prog.funcs[F.q156]? = some Tryz.f156 := Tryz.func156
abbrev F.q162 : Nat := 162
theorem D.q162 : T.prog.funcs[F.q162]? = some Tryz.f162 := Tryz.func162
abbrev F.q163 : Nat := 163
theorem D.q163 : T.prog.funcs[F.q163]? = some Tryz.f163 := Tryz.func163
abbrev F.q164 : Nat := 164
theorem D.q164 : T.prog.funcs[F.q164]? = some Tryz.f164 := Tryz.func164
abbrev F.q165 : Nat := 165
theorem D.q165 : T.prog.funcs[F.q165]? = some Tryz.f165 := Tryz.func165
abbrev F.q166 : Nat := 166
theorem D.q166 : T.prog.funcs[F.q166]? = some Tryz.f166 := Tryz.func166
abbrev F.q167 : Nat := 167
theorem D.q167 : T.prog.funcs[F.q167]? = some Tryz.f167 := Tryz.func167
abbrev F.q168 : Nat := 168
theorem D.q168 : T.prog.funcs[F.q168]? = some Tryz.f168 := Tryz.func168
abbrev F.q169 : Nat := 169
theorem D.q169 : T.prog.funcs[F.q169]? = some Tryz.f169 := Tryz.func169
abbrev F.q170 : Nat := 170
theorem D.q170 : T.prog.funcs[F.q170]? = some Tryz.f170 := Tryz.func170
abbrev F.q171 : Nat := 171
theorem D.q171 : T.prog.funcs[F.q171]? = some Tryz.f171 := Tryz.func171
abbrev F.q172 : Nat := 172
theorem D.q172 : T.prog.funcs[F.q172]? = some Tryz.f172 := Tryz.func172
abbrev F.q173 : Nat := 173
theorem D.q173 : T.prog.funcs[F.q173]? = some Tryz.f173 := Tryz.func173
abbrev F.q174 : Nat := 174
abbrev F.q175 : Nat := 175
abbrev F.q176 : Nat := 176
theorem D.q176 : T.prog.funcs[F.q176]? = some Tryz.f176 := Tryz.func176
abbrev F.q177 : Nat := 177
theorem D.q177 : T.prog.funcs[F.q177]? = some Tryz.f177 := Tryz.func177
abbrev F.q178 : Nat := 178
theorem D.q178 : T.prog.funcs[F.q178]? = some Tryz.f178 := Tryz.func178
abbrev F.q179 : Nat := 179
theorem D.q179 : T.prog.funcs[F.q179]? = some Tryz.f179 := Tryz.func179
abbrev F.q180 : Nat := 180
theorem D.q180 : T.prog.funcs[F.q180]? = some Tryz.f180 := Tryz.func180
abbrev F.q181 : Nat := 181
theorem D.q181 : T.prog.funcs[F.q181]? = some Tryz.f181 := Tryz.func181
abbrev F.q182 : Nat := 182
theorem D.q182 : T.prog.funcs[F.q182]? = some Tryz.f182 := Tryz.func182
abbrev F.q183 : Nat := 183
theorem D.q183 : T.prog.funcs[F.q183]? = some Tryz.f183 := Tryz.func183
abbrev F.q184 : Nat := 184
theorem D.q184 : T.prog.funcs[F.q184]? = some Tryz.f184 := Tryz.func184
abbrev F.q185 : Nat := 185
theorem D.q185 : T.prog.funcs[F.q185]? = some Tryz.f185 := Tryz.func185
abbrev F.q186 : Nat := 186
theorem D.q186 : T.prog.funcs[F.q186]? = some Tryz.f186 := Tryz.func186
abbrev F.q187 : Nat := 187
theorem D.q187 : T.prog.funcs[F.q187]? = some Tryz.f187 := Tryz.func187
abbrev F.q188 : Nat := 188
theorem D.q188 : T.prog.funcs[F.q188]? = some Tryz.f188 := Tryz.func188
abbrev F.q189 : Nat := 189
theorem D.q189 : T.prog.funcs[F.q189]? = some Tryz.f189 := Tryz.func189
abbrev F.q190 : Nat := 190
theorem D.q190 : T.prog.funcs[F.q190]? = some Tryz.f190 := Tryz.func190
abbrev F.q191 : Nat := 191
theorem D.q191 : T.prog.funcs[F.q191]? = some Tryz.f191 := Tryz.func191
abbrev F.q192 : Nat := 192
theorem D.q192 : T.prog.funcs[F.q192]? = some Tryz.f192 := Tryz.func192
abbrev F.q193 : Nat := 193
theorem D.q193 : T.prog.funcs[F.q193]? = some Tryz.f193 := Tryz.func193
abbrev F.q194 : Nat := 194
theorem D.q194 : T.prog.funcs[F.q194]? = some Tryz.f194 := Tryz.func194
abbrev F.q195 : Nat := 195
theorem D.q195 : T.prog.funcs[F.q195]? = some Tryz.f195 := Tryz.func195
abbrev F.q196 : Nat := 196
theorem D.q196 : T.prog.funcs[F.q196]? = some Tryz.f196 := Tryz.func196
abbrev F.q197 : Nat := 197
theorem D.q197 : T.prog.funcs[F.q197]? = some Tryz.f197 := Tryz.func197
abbrev F.q198 : Nat := 198
theorem D.q198 : T.prog.funcs[F.q198]? = some Tryz.f198 := Tryz.func198
abbrev F.q199 : Nat := 199
theorem D.q199 : T.prog.funcs[F.q199]? = some Tryz.f199 := Tryz.func199
abbrev F.q204 : Nat := 204
theorem D.q204 : T.prog.funcs[F.q204]? = some Tryz.f204 := Tryz.func204
abbrev F.q205 : Nat := 205
theorem D.q205 : T.prog.funcs[F.q205]? = some Tryz.f205 := Tryz.func205
abbrev F.q206 : Nat := 206
theorem D.q206 : T.prog.funcs[F.q206]? = some Tryz.f206 := Tryz.func206
abbrev F.q207 : Nat := 207
theorem D.q207 : T.prog.funcs[F.q207]? = some Tryz.f207 := Tryz.func207
abbrev F.q208 : Nat := 208
theorem D.q208 : T.prog.funcs[F.q208]? = some Tryz.f208 := Tryz.func208
abbrev F.q209 : Nat := 209
theorem D.q209 : T.prog.funcs[F.q209]? = some Tryz.f209 := Tryz.func209
abbrev F.q210 : Nat := 210
theorem D.q210 : T.prog.funcs[F.q210]? = some Tryz.f210 := Tryz.func210
abbrev F.q211 : Nat := 211
theorem D.q211 : T.prog.funcs[F.q211]? = some Tryz.f211 := Tryz.func211
abbrev F.q212 : Nat := 212
theorem D.q212 : T.prog.funcs[F.q212]? = some Tryz.f212 := Tryz.func212
abbrev F.q213 : Nat := 213
abbrev F.q214 : Nat := 214
abbrev F.q215 : Nat := 215
theorem D.q215 : T.prog.funcs[F.q215]? = some Tryz.f215 := Tryz.func215
abbrev F.q216 : Nat := 216
theorem D.q216 : T.prog.funcs[F.q216]? = some Tryz.f216 := Tryz.func216
abbrev F.q217 : Nat := 217
theorem D.q217 : T.prog.funcs[F.q217]? = some Tryz.f217 := Tryz.func217
abbrev F.q219 : Nat := 219
abbrev F.q220 : Nat := 220
theorem D.q220 : T.prog.funcs[F.q220]? = some Tryz.f220 := Tryz.func220
abbrev F.q221 : Nat := 221
theorem D.q221 : T.prog.funcs[F.q221]? = some Tryz.f221 := Tryz.func221
abbrev F.q222 : Nat := 222
theorem D.q222 : T.prog.funcs[F.q222]? = some Tryz.f222 := Tryz.func222
abbrev F.q223 : Nat := 223
theorem D.q223 : T.prog.funcs[F.q223]? = some Tryz.f223 := Tryz.func223
abbrev F.q224 : Nat := 224
theorem D.q224 : T.prog.funcs[F.q224]? = some Tryz.f224 := Tryz.func224
abbrev F.q225 : Nat := 225
theorem D.q225 : T.prog.funcs[F.q225]? = some Tryz.f225 := Tryz.func225
abbrev F.q226 : Nat := 226
theorem D.q226 : T.prog.funcs[F.q226]? = some Tryz.f226 := Tryz.func226
abbrev F.q227 : Nat := 227
theorem D.q227 : T.prog.funcs[F.q227]? = some Tryz.f227 := Tryz.func227
abbrev F.q228 : Nat := 228
theorem D.q228 : T.prog.funcs[F.q228]? = some Tryz.f228 := Tryz.func228
abbrev F.q231 : Nat := 231
theorem D.q231 : T.prog.funcs[F.q231]? = some Tryz.f231 := Tryz.func231
abbrev F.q232 : Nat := 232
abbrev F.q239 : Nat := 239
theorem D.q239 : T.prog.funcs[F.q239]? = some Tryz.f239 := Tryz.func239
abbrev F.q240 : Nat := 240
theorem D.q240 : T.prog.funcs[F.q240]? = some Tryz.f240 := Tryz.func240
abbrev F.q241 : Nat := 241
theorem D.q241 : T.prog.funcs[F.q241]? = some Tryz.f241 := Tryz.func241
abbrev F.q242 : Nat := 242
theorem D.q242 : T.prog.funcs[F.q242]? = some Tryz.f242 := Tryz.func242
abbrev F.q243 : Nat := 243
theorem D.q243 : T.prog.funcs[F.q243]? = some Tryz.f243 := Tryz.func243
abbrev F.q244 : Nat := 244
theorem D.q244 : T.prog.funcs[F.q244]? = some Tryz.f244 := Tryz.func244
abbrev F.q247 : Nat := 247
theorem D.q247 : T.prog.funcs[F.q247]? = some Tryz.f247 := Tryz.func247
abbrev F.q248 : Nat := 248
abbrev F.q249 : Nat := 249
abbrev F.q250 : Nat := 250
abbrev F.q251 : Nat := 251
abbrev F.q256 : Nat := 256
theorem D.q256 : T.prog.funcs[F.q256]? = some Tryz.f256 := Tryz.func256
abbrev F.q257 : Nat := 257
theorem D.q257 : T.prog.funcs[F.q257]? = some Tryz.f257 := Tryz.func257
abbrev F.q258 : Nat := 258
theorem D.q258 : T.prog.funcs[F.q258]? = some Tryz.f258 := Tryz.func258
abbrev F.q267 : Nat := 267
abbrev F.q268 : Nat := 268
abbrev F.q269 : Nat := 269
abbrev F.q270 : Nat := 270
abbrev F.q271 : Nat := 271
abbrev F.q272 : Nat := 272
theorem D.q272 : T.prog.funcs[F.q272]? = some Tryz.f272 := Tryz.func272
abbrev F.q278 : Nat := 278
abbrev F.q279 : Nat := 279
theorem D.q279 : T.prog.funcs[F.q279]? = some Tryz.f279 := Tryz.func279
abbrev Ty.int64 : Nat := 2
abbrev Ty.int : Nat := 3
abbrev Ty.bool : Nat := 4
abbrev Ty.uint8 : Nat := 5
abbrev Ty.int32 : Nat := 21
abbrev Ty.api_Rat : Nat := 24
abbrev Ty.api_Expr : Nat := 27
abbrev Ty.api_Value : Nat := 33
abbrev Ty.api_Errno : Nat := 35
abbrev Ty.expr_poly : Nat := 64
abbrev Ty.word_Nat : Nat := 67
abbrev Ty.word_Frac : Nat := 69
abbrev Ty.expr_term : Nat := 72
abbrev Ty.api_Factor : Nat := 77
abbrev Ty.api_Term : Nat := 79
abbrev Ty.api_Bind : Nat := 87
abbrev Ty.ref01_Nat : Nat := 93
abbrev Ty.ref01_Q : Nat := 95
abbrev Ty.syntax_Fault : Nat := 103
abbrev Ty.expr_failure : Nat := 115
abbrev Ty.uint32 : Nat := 118
abbrev Ty.uint64 : Nat := 139
abbrev Ty.syntax_Token : Nat := 145
abbrev Ty.syntax_Parser : Nat := 152
abbrev Ty.syntax_count : Nat := 159
abbrev Ty.expr_operand : Nat := 165
abbrev Gl.internal_bytealg_MaxLen : Nat := 0
abbrev Gl.math_bits_deBruijn32tab : Nat := 1
abbrev Gl.unicode_utf8_first : Nat := 2
abbrev Gl.unicode_utf8_acceptRanges : Nat := 3
abbrev Gl.internal_strconv_uint64pow10 : Nat := 4
abbrev Gl.math_bits_deBruijn64tab : Nat := 5
end Go.Proofs.Y