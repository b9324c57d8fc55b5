/- The tables of this seat's translation as the engine wants them: the types' shapes and zero values, the functions' numbers by name. Printed by program; every row is checked by Lean. -/
import Derived.Test.YtdccpmlhflpeaaaGreatDoorProg
import Derived.Test.YtdccpmlhflpeaaaGreatDoorVcRule
import Derived.KernelRfl
set_option linter.all false
set_option maxRecDepth 100000
namespace Go.Proofs.Y
open Go Go.Vc
inductive BT (α : Type) where
  | leaf
  | node (l : BT α) (k : Nat) (x : α) (r : BT α)
def aD7 {α : Type} : BT α → Nat → Option α
  | .leaf, _ => none
  | .node l k x r, t => match Nat.beq t k with
    | true => some x
    | false => match Nat.blt t k with
      | true => aD7 l t
      | false => aD7 r t
def BT.toL {α : Type} : BT α → List (Nat × α)
  | .leaf => []
  | .node l k x r => l.toL ++ (k, x) :: r.toL
theorem rE {α : Type} : ∀ {b : BT α} {t : Nat} {x : α}, aD7 b t = some x → (t, x) ∈ b.toL
  | .leaf, _, _, h => by simp [aD7] at h
  | .node l k y r, t, x, h => by
    simp only [aD7] at h
    split at h
    · rename_i e
      obtain rfl := Nat.eq_of_beq_eq_true e
      cases h; simp [BT.toL]
    · split at h
      · exact bDz _ (rE h)
      · exact bD0 _ (bDh _ (rE h))
def bBy : BT TypeDesc := (.node (.node (.node (.node (.node (.node (.node .leaf 1 (.func #[] #[] false) .leaf) 2 (.int .i64) .leaf) 3 (.int .i64) (.node .leaf 4 (.bool) .leaf)) 5 (.int .u8) (.node (.node .leaf 9 (.string) .leaf) 22 (.slice 105) (.node .leaf 24 (.struct #[⟨"Neg", 4, 0, false, "", "", 0⟩, ⟨"Num", 22, 1, false, "", "", 8⟩, ⟨"Den", 22, 2, false, "", "", 32⟩]) .leaf))) 25 (.slice 27) (.node (.node (.node .leaf 27 (.struct #[⟨"Op", 3, 0, false, "", "", 0⟩, ⟨"Arg", 3, 1, false, "", "", 8⟩, ⟨"Num", 24, 2, false, "", "", 16⟩, ⟨"Name", 9, 5, false, "", "", 72⟩, ⟨"Kids", 25, 6, false, "", "", 88⟩]) .leaf) 28 (.slice 64) (.node .leaf 30 (.struct #[⟨"E", 27, 0, false, "", "", 0⟩, ⟨"At", 28, 7, false, "", "", 112⟩, ⟨"Name", 9, 8, false, "", "", 136⟩, ⟨"H", 24, 9, false, "", "", 152⟩]) .leaf)) 31 (.func #[27] #[4] false) (.node (.node .leaf 32 (.func #[9] #[4] false) .leaf) 34 (.slice 105) (.node .leaf 36 (.struct #[⟨"Neg", 4, 0, false, "", "", 0⟩, ⟨"N", 34, 1, false, "", "", 8⟩, ⟨"D", 34, 2, false, "", "", 32⟩]) .leaf)))) 40 (.int .i64) (.node (.node (.node (.node (.node .leaf 48 (.slice 98) .leaf) 57 (.slice 9) .leaf) 61 (.int .u64) (.node .leaf 64 (.struct #[⟨"Name", 9, 0, false, "", "", 0⟩, ⟨"Num", 24, 1, false, "", "", 16⟩]) .leaf)) 65 (.func #[36] #[24] false) (.node (.node .leaf 66 (.map 9 24) .leaf) 72 (.slice 124) (.node .leaf 75 (.pointer 131) .leaf))) 78 (.struct #[⟨"Err", 40, 0, false, "", "", 0⟩, ⟨"At", 3, 1, false, "", "", 8⟩]) (.node (.node (.node .leaf 83 (.slice 92) .leaf) 84 (.slice 92) (.node .leaf 87 (.slice 105) .leaf)) 89 (.struct #[⟨"Neg", 4, 0, false, "", "", 0⟩, ⟨"Num", 87, 1, false, "", "", 8⟩, ⟨"Den", 87, 2, false, "", "", 32⟩]) (.node (.node .leaf 90 (.slice 96) .leaf) 92 (.struct #[⟨"coef", 89, 0, false, "", "inequality/expr", 0⟩, ⟨"factors", 90, 3, false, "", "inequality/expr", 56⟩]) (.node .leaf 96 (.struct #[⟨"Atom", 9, 0, false, "", "", 0⟩, ⟨"Exp", 3, 1, false, "", "", 16⟩]) .leaf))))) 98 (.struct #[⟨"Coef", 24, 0, false, "", "", 0⟩, ⟨"Factors", 90, 3, false, "", "", 56⟩]) (.node (.node (.node (.node (.node (.node .leaf 105 (.int .u32) .leaf) 111 (.func #[89] #[89] false) .leaf) 114 (.slice 24) (.node .leaf 117 (.pointer 120) .leaf)) 118 (.slice 5) (.node (.node .leaf 120 (.struct #[⟨"addr", 117, 0, false, "", "strings", 0⟩, ⟨"buf", 118, 1, false, "", "strings", 8⟩]) .leaf) 124 (.struct #[⟨"Kind", 3, 0, false, "", "", 0⟩, ⟨"Text", 9, 1, false, "", "", 8⟩, ⟨"At", 3, 2, false, "", "", 24⟩]) (.node .leaf 129 (.slice 139) .leaf))) 131 (.struct #[⟨"tokens", 72, 0, false, "", "inequality/syntax", 0⟩, ⟨"next", 3, 1, false, "", "inequality/syntax", 24⟩, ⟨"end", 3, 2, false, "", "inequality/syntax", 32⟩, ⟨"counts", 129, 3, false, "", "inequality/syntax", 40⟩]) (.node (.node (.node .leaf 133 (.slice 78) .leaf) 139 (.struct #[⟨"at", 3, 0, false, "", "inequality/syntax", 0⟩, ⟨"low", 3, 1, false, "", "inequality/syntax", 8⟩, ⟨"high", 3, 2, false, "", "inequality/syntax", 16⟩, ⟨"n", 3, 3, false, "", "inequality/syntax", 24⟩]) (.node .leaf 141 (.struct #[⟨"why", 40, 0, false, "", "inequality/expr", 0⟩]) .leaf)) 145 (.func #[31] #[] false) (.node (.node .leaf 154 (.int .u64) .leaf) 174 (.pointer 5) (.node .leaf 178 (.array 256 4) .leaf)))) 182 (.pointer 178) (.node (.node (.node (.node .leaf 201 (.struct #[⟨"e", 27, 0, false, "", "inequality/expr", 0⟩, ⟨"x", 89, 7, false, "", "inequality/expr", 112⟩, ⟨"is", 4, 10, false, "", "inequality/expr", 168⟩]) .leaf) 214 (.func #[89, 89] #[89] false) (.node .leaf 217 (.map 3 9) .leaf)) 248 (.func #[92, 92] #[3] false) (.node (.node .leaf 250 (.func #[92] #[4] false) .leaf) 251 (.map 9 3) (.node .leaf 252 (.slice 90) .leaf))) 254 (.func #[96, 96] #[3] false) (.node (.node (.node .leaf 255 (.array 24 5) .leaf) 256 (.func #[61] #[3] false) (.node .leaf 267 (.array 32 5) .leaf)) 275 (.array 20 61) (.node (.node .leaf 276 (.array 65 5) .leaf) 279 (.slice 3) (.node .leaf 293 (.array 64 5) .leaf))))))
def bBz : BT (List Value × Nat) := (.node (.node (.node (.node (.node (.node (.node .leaf 1 ([.nilFunc], 8) .leaf) 2 ([.int .i64 0], 8) .leaf) 3 ([.int .i64 0], 8) (.node .leaf 4 ([.bool false], 1) .leaf)) 5 ([.int .u8 0], 1) (.node (.node .leaf 9 ([.string ByteArray.empty], 16) .leaf) 22 ([.slice none 0 0], 24) (.node .leaf 24 ([.bool false, .slice none 0 0, .slice none 0 0], 56) .leaf))) 25 ([.slice none 0 0], 24) (.node (.node (.node .leaf 27 ([.int .i64 0, .int .i64 0, .bool false, .slice none 0 0, .slice none 0 0, .string ByteArray.empty, .slice none 0 0], 112) .leaf) 28 ([.slice none 0 0], 24) (.node .leaf 30 ([.int .i64 0, .int .i64 0, .bool false, .slice none 0 0, .slice none 0 0, .string ByteArray.empty, .slice none 0 0, .slice none 0 0, .string ByteArray.empty, .bool false, .slice none 0 0, .slice none 0 0], 208) .leaf)) 31 ([.nilFunc], 8) (.node (.node .leaf 32 ([.nilFunc], 8) .leaf) 34 ([.slice none 0 0], 24) (.node .leaf 36 ([.bool false, .slice none 0 0, .slice none 0 0], 56) .leaf)))) 40 ([.int .i64 0], 8) (.node (.node (.node (.node .leaf 48 ([.slice none 0 0], 24) .leaf) 57 ([.slice none 0 0], 24) (.node .leaf 61 ([.int .u64 0], 8) .leaf)) 64 ([.string ByteArray.empty, .bool false, .slice none 0 0, .slice none 0 0], 72) (.node (.node .leaf 65 ([.nilFunc], 8) .leaf) 66 ([.map none], 8) (.node .leaf 72 ([.slice none 0 0], 24) .leaf))) 75 ([.pointer none], 8) (.node (.node (.node .leaf 78 ([.int .i64 0, .int .i64 0], 16) .leaf) 83 ([.slice none 0 0], 24) (.node .leaf 84 ([.slice none 0 0], 24) .leaf)) 87 ([.slice none 0 0], 24) (.node (.node .leaf 89 ([.bool false, .slice none 0 0, .slice none 0 0], 56) .leaf) 90 ([.slice none 0 0], 24) (.node .leaf 92 ([.bool false, .slice none 0 0, .slice none 0 0, .slice none 0 0], 80) .leaf))))) 96 ([.string ByteArray.empty, .int .i64 0], 24) (.node (.node (.node (.node (.node (.node .leaf 98 ([.bool false, .slice none 0 0, .slice none 0 0, .slice none 0 0], 80) .leaf) 105 ([.int .u32 0], 4) .leaf) 111 ([.nilFunc], 8) (.node .leaf 114 ([.slice none 0 0], 24) .leaf)) 117 ([.pointer none], 8) (.node (.node .leaf 118 ([.slice none 0 0], 24) .leaf) 120 ([.pointer none, .slice none 0 0], 32) (.node .leaf 124 ([.int .i64 0, .string ByteArray.empty, .int .i64 0], 32) .leaf))) 129 ([.slice none 0 0], 24) (.node (.node (.node .leaf 131 ([.slice none 0 0, .int .i64 0, .int .i64 0, .slice none 0 0], 64) .leaf) 133 ([.slice none 0 0], 24) (.node .leaf 139 ((.replicate 4 (.int .i64 0)), 32) .leaf)) 141 ([.int .i64 0], 8) (.node (.node .leaf 145 ([.nilFunc], 8) .leaf) 154 ([.int .u64 0], 8) (.node .leaf 174 ([.pointer none], 8) .leaf)))) 182 ([.pointer none], 8) (.node (.node (.node (.node .leaf 201 ([.int .i64 0, .int .i64 0, .bool false, .slice none 0 0, .slice none 0 0, .string ByteArray.empty, .slice none 0 0, .bool false, .slice none 0 0, .slice none 0 0, .bool false], 176) .leaf) 214 ([.nilFunc], 8) (.node .leaf 217 ([.map none], 8) .leaf)) 234 ([.pointer none], 8) (.node (.node .leaf 248 ([.nilFunc], 8) .leaf) 250 ([.nilFunc], 8) (.node .leaf 251 ([.map none], 8) .leaf))) 252 ([.slice none 0 0], 24) (.node (.node (.node .leaf 254 ([.nilFunc], 8) .leaf) 255 ((.replicate 24 (.int .u8 0)), 24) (.node .leaf 256 ([.nilFunc], 8) .leaf)) 267 ((.replicate 32 (.int .u8 0)), 32) (.node (.node .leaf 275 ((.replicate 20 (.int .u64 0)), 160) .leaf) 279 ([.slice none 0 0], 24) (.node .leaf 293 ((.replicate 64 (.int .u8 0)), 64) .leaf))))))
def fnB : BT Unit := (.node (.node (.node (.node (.node (.node (.node (.node .leaf 3 () .leaf) 4 () (.node .leaf 5 () .leaf)) 6 () (.node (.node .leaf 7 () .leaf) 8 () .leaf)) 9 () (.node (.node (.node .leaf 10 () .leaf) 11 () (.node .leaf 12 () .leaf)) 13 () (.node (.node .leaf 14 () .leaf) 15 () .leaf))) 16 () (.node (.node (.node (.node .leaf 17 () .leaf) 18 () (.node .leaf 19 () .leaf)) 20 () (.node (.node .leaf 21 () .leaf) 22 () .leaf)) 23 () (.node (.node (.node .leaf 24 () .leaf) 25 () (.node .leaf 26 () .leaf)) 27 () (.node (.node .leaf 28 () .leaf) 29 () .leaf)))) 30 () (.node (.node (.node (.node (.node .leaf 31 () .leaf) 32 () (.node .leaf 33 () .leaf)) 34 () (.node (.node .leaf 35 () .leaf) 36 () .leaf)) 37 () (.node (.node (.node .leaf 38 () .leaf) 39 () (.node .leaf 40 () .leaf)) 41 () (.node (.node .leaf 42 () .leaf) 43 () .leaf))) 44 () (.node (.node (.node (.node .leaf 45 () .leaf) 46 () (.node .leaf 47 () .leaf)) 48 () (.node (.node .leaf 49 () .leaf) 50 () .leaf)) 51 () (.node (.node (.node .leaf 52 () .leaf) 53 () .leaf) 54 () (.node (.node .leaf 55 () .leaf) 56 () .leaf))))) 57 () (.node (.node (.node (.node (.node (.node .leaf 58 () .leaf) 59 () (.node .leaf 60 () .leaf)) 61 () (.node (.node .leaf 62 () .leaf) 64 () .leaf)) 65 () (.node (.node (.node .leaf 66 () .leaf) 67 () (.node .leaf 68 () .leaf)) 69 () (.node (.node .leaf 70 () .leaf) 71 () .leaf))) 72 () (.node (.node (.node (.node .leaf 73 () .leaf) 74 () (.node .leaf 75 () .leaf)) 76 () (.node (.node .leaf 77 () .leaf) 78 () .leaf)) 79 () (.node (.node (.node .leaf 80 () .leaf) 81 () (.node .leaf 82 () .leaf)) 83 () (.node (.node .leaf 84 () .leaf) 85 () .leaf)))) 86 () (.node (.node (.node (.node (.node .leaf 87 () .leaf) 88 () (.node .leaf 89 () .leaf)) 90 () (.node (.node .leaf 91 () .leaf) 92 () .leaf)) 93 () (.node (.node (.node .leaf 94 () .leaf) 95 () (.node .leaf 97 () .leaf)) 98 () (.node (.node .leaf 99 () .leaf) 100 () .leaf))) 101 () (.node (.node (.node (.node .leaf 102 () .leaf) 103 () (.node .leaf 104 () .leaf)) 105 () (.node (.node .leaf 106 () .leaf) 107 () .leaf)) 108 () (.node (.node (.node .leaf 109 () .leaf) 110 () .leaf) 114 () (.node (.node .leaf 115 () .leaf) 116 () .leaf)))))) 119 () (.node (.node (.node (.node (.node (.node (.node .leaf 120 () .leaf) 121 () (.node .leaf 122 () .leaf)) 123 () (.node (.node .leaf 125 () .leaf) 126 () .leaf)) 127 () (.node (.node (.node .leaf 128 () .leaf) 129 () (.node .leaf 130 () .leaf)) 131 () (.node (.node .leaf 132 () .leaf) 133 () .leaf))) 134 () (.node (.node (.node (.node .leaf 140 () .leaf) 141 () (.node .leaf 142 () .leaf)) 143 () (.node (.node .leaf 144 () .leaf) 145 () .leaf)) 146 () (.node (.node (.node .leaf 147 () .leaf) 148 () (.node .leaf 150 () .leaf)) 151 () (.node (.node .leaf 152 () .leaf) 153 () .leaf)))) 154 () (.node (.node (.node (.node (.node .leaf 155 () .leaf) 156 () (.node .leaf 157 () .leaf)) 158 () (.node (.node .leaf 159 () .leaf) 160 () .leaf)) 161 () (.node (.node (.node .leaf 162 () .leaf) 163 () (.node .leaf 164 () .leaf)) 165 () (.node (.node .leaf 166 () .leaf) 167 () .leaf))) 168 () (.node (.node (.node (.node .leaf 173 () .leaf) 174 () (.node .leaf 175 () .leaf)) 176 () (.node (.node .leaf 177 () .leaf) 178 () .leaf)) 179 () (.node (.node (.node .leaf 180 () .leaf) 181 () .leaf) 183 () (.node (.node .leaf 184 () .leaf) 185 () .leaf))))) 190 () (.node (.node (.node (.node (.node (.node .leaf 191 () .leaf) 192 () (.node .leaf 193 () .leaf)) 194 () (.node (.node .leaf 195 () .leaf) 196 () .leaf)) 197 () (.node (.node (.node .leaf 198 () .leaf) 199 () (.node .leaf 200 () .leaf)) 201 () (.node (.node .leaf 202 () .leaf) 205 () .leaf))) 206 () (.node (.node (.node (.node .leaf 208 () .leaf) 209 () (.node .leaf 211 () .leaf)) 212 () (.node (.node .leaf 213 () .leaf) 220 () .leaf)) 221 () (.node (.node (.node .leaf 222 () .leaf) 223 () .leaf) 224 () (.node (.node .leaf 225 () .leaf) 226 () .leaf)))) 227 () (.node (.node (.node (.node (.node .leaf 228 () .leaf) 229 () (.node .leaf 230 () .leaf)) 231 () (.node (.node .leaf 232 () .leaf) 233 () .leaf)) 234 () (.node (.node (.node .leaf 235 () .leaf) 240 () (.node .leaf 241 () .leaf)) 242 () (.node (.node .leaf 243 () .leaf) 244 () .leaf))) 245 () (.node (.node (.node (.node .leaf 248 () .leaf) 249 () (.node .leaf 250 () .leaf)) 251 () (.node (.node .leaf 252 () .leaf) 253 () .leaf)) 254 () (.node (.node (.node .leaf 255 () .leaf) 256 () .leaf) 265 () (.node (.node .leaf 266 () .leaf) 272 () .leaf)))))))
def BT.All {α : Type} (p : Nat × α → Prop) : BT α → Prop
  | .leaf => True
  | .node l k x r => l.All p ∧ p (k, x) ∧ r.All p
theorem lf {α : Type} {p : Nat × α → Prop} : BT.All p .leaf := trivial
theorem nd {α : Type} {p : Nat × α → Prop} {l r : BT α} {k : Nat} {x : α} (a : l.All p) (b : p (k, x)) (c : r.All p) : BT.All p (.node l k x r) := ⟨a, b, c⟩
theorem BT.all_mem {α : Type} {p : Nat × α → Prop} {y : Nat × α} : ∀ {b : BT α}, b.All p → y ∈ b.toL → p y
  | .leaf, _, h => by cases h
  | .node l k x r, ⟨h1, h2, h3⟩, h => by
    rw [BT.toL] at h
    rcases bDf.1 h with h | h
    · exact BT.all_mem h1 h
    · rcases bDp.1 h with rfl | h
      · exact h2
      · exact BT.all_mem h3 h
noncomputable def T : Tab := { prog := Tryz.prog, und := aD7 bBy, inf := aD7 bBz, fn := fun f => (aD7 fnB f).isSome, room := False }
theorem bB0 : bBy.All fun x => Tryz.prog.underlying x.1 = some x.2 := (nd (nd (nd (nd (nd (nd (nd lf Tryz.underlying1 lf) Tryz.underlying2 lf) Tryz.underlying3 (nd lf Tryz.underlying4 lf)) Tryz.underlying5 (nd (nd lf Tryz.underlying9 lf) Tryz.underlying22 (nd lf Tryz.underlying24 lf))) Tryz.underlying25 (nd (nd (nd lf Tryz.underlying27 lf) Tryz.underlying28 (nd lf Tryz.underlying30 lf)) Tryz.underlying31 (nd (nd lf Tryz.underlying32 lf) Tryz.underlying34 (nd lf Tryz.underlying36 lf)))) Tryz.underlying40 (nd (nd (nd (nd (nd lf Tryz.underlying48 lf) Tryz.underlying57 lf) Tryz.underlying61 (nd lf Tryz.underlying64 lf)) Tryz.underlying65 (nd (nd lf Tryz.underlying66 lf) Tryz.underlying72 (nd lf Tryz.underlying75 lf))) Tryz.underlying78 (nd (nd (nd lf Tryz.underlying83 lf) Tryz.underlying84 (nd lf Tryz.underlying87 lf)) Tryz.underlying89 (nd (nd lf Tryz.underlying90 lf) Tryz.underlying92 (nd lf Tryz.underlying96 lf))))) Tryz.underlying98 (nd (nd (nd (nd (nd (nd lf Tryz.underlying105 lf) Tryz.underlying111 lf) Tryz.underlying114 (nd lf Tryz.underlying117 lf)) Tryz.underlying118 (nd (nd lf Tryz.underlying120 lf) Tryz.underlying124 (nd lf Tryz.underlying129 lf))) Tryz.underlying131 (nd (nd (nd lf Tryz.underlying133 lf) Tryz.underlying139 (nd lf Tryz.underlying141 lf)) Tryz.underlying145 (nd (nd lf Tryz.underlying154 lf) Tryz.underlying174 (nd lf Tryz.underlying178 lf)))) Tryz.underlying182 (nd (nd (nd (nd lf Tryz.underlying201 lf) Tryz.underlying214 (nd lf Tryz.underlying217 lf)) Tryz.underlying248 (nd (nd lf Tryz.underlying250 lf) Tryz.underlying251 (nd lf Tryz.underlying252 lf))) Tryz.underlying254 (nd (nd (nd lf Tryz.underlying255 lf) Tryz.underlying256 (nd lf Tryz.underlying267 lf)) Tryz.underlying275 (nd (nd lf Tryz.underlying276 lf) Tryz.underlying279 (nd lf Tryz.underlying293 lf))))))
theorem bB1 : bBz.All fun x => ∃ i v, Tryz.prog.info? x.1 = some i ∧ i.zero = some v ∧ v.cells = x.2.1.toArray ∧ i.size = x.2.1.length ∧ i.bytes = x.2.2 := (nd (nd (nd (nd (nd (nd (nd lf ⟨Tryz.t1, _, by kernel_rfl, rfl, rfl, rfl, rfl⟩ lf) ⟨Tryz.t2, _, by kernel_rfl, rfl, rfl, rfl, rfl⟩ lf) ⟨Tryz.t3, _, by kernel_rfl, rfl, rfl, rfl, rfl⟩ (nd lf ⟨Tryz.t4, _, by kernel_rfl, rfl, rfl, rfl, rfl⟩ lf)) ⟨Tryz.t5, _, by kernel_rfl, rfl, rfl, rfl, rfl⟩ (nd (nd lf ⟨Tryz.t9, _, by kernel_rfl, rfl, rfl, rfl, rfl⟩ lf) ⟨Tryz.t22, _, by kernel_rfl, rfl, rfl, rfl, rfl⟩ (nd lf ⟨Tryz.t24, _, by kernel_rfl, rfl, rfl, rfl, rfl⟩ lf))) ⟨Tryz.t25, _, by kernel_rfl, rfl, rfl, rfl, rfl⟩ (nd (nd (nd lf ⟨Tryz.t27, _, by kernel_rfl, rfl, rfl, rfl, rfl⟩ lf) ⟨Tryz.t28, _, by kernel_rfl, rfl, rfl, rfl, rfl⟩ (nd lf ⟨Tryz.t30, _, by kernel_rfl, rfl, rfl, rfl, rfl⟩ lf)) ⟨Tryz.t31, _, by kernel_rfl, rfl, rfl, rfl, rfl⟩ (nd (nd lf ⟨Tryz.t32, _, by kernel_rfl, rfl, rfl, rfl, rfl⟩ lf) ⟨Tryz.t34, _, by kernel_rfl, rfl, rfl, rfl, rfl⟩ (nd lf ⟨Tryz.t36, _, by kernel_rfl, rfl, rfl, rfl, rfl⟩ lf)))) ⟨Tryz.t40, _, by kernel_rfl, rfl, rfl, rfl, rfl⟩ (nd (nd (nd (nd lf ⟨Tryz.t48, _, by kernel_rfl, rfl, rfl, rfl, rfl⟩ lf) ⟨Tryz.t57, _, by kernel_rfl, rfl, rfl, rfl, rfl⟩ (nd lf ⟨Tryz.t61, _, by kernel_rfl, rfl, rfl, rfl, rfl⟩ lf)) ⟨Tryz.t64, _, by kernel_rfl, rfl, rfl, rfl, rfl⟩ (nd (nd lf ⟨Tryz.t65, _, by kernel_rfl, rfl, rfl, rfl, rfl⟩ lf) ⟨Tryz.t66, _, by kernel_rfl, rfl, rfl, rfl, rfl⟩ (nd lf ⟨Tryz.t72, _, by kernel_rfl, rfl, rfl, rfl, rfl⟩ lf))) ⟨Tryz.t75, _, by kernel_rfl, rfl, rfl, rfl, rfl⟩ (nd (nd (nd lf ⟨Tryz.t78, _, by kernel_rfl, rfl, rfl, rfl, rfl⟩ lf) ⟨Tryz.t83, _, by kernel_rfl, rfl, rfl, rfl, rfl⟩ (nd lf ⟨Tryz.t84, _, by kernel_rfl, rfl, rfl, rfl, rfl⟩ lf)) ⟨Tryz.t87, _, by kernel_rfl, rfl, rfl, rfl, rfl⟩ (nd (nd lf ⟨Tryz.t89, _, by kernel_rfl, rfl, rfl, rfl, rfl⟩ lf) ⟨Tryz.t90, _, by kernel_rfl, rfl, rfl, rfl, rfl⟩ (nd lf ⟨Tryz.t92, _, by kernel_rfl, rfl, rfl, rfl, rfl⟩ lf))))) ⟨Tryz.t96, _, by kernel_rfl, rfl, rfl, rfl, rfl⟩ (nd (nd (nd (nd (nd (nd lf ⟨Tryz.t98, _, by kernel_rfl, rfl, rfl, rfl, rfl⟩ lf) ⟨Tryz.t105, _, by kernel_rfl, rfl, rfl, rfl, rfl⟩ lf) ⟨Tryz.t111, _, by kernel_rfl, rfl, rfl, rfl, rfl⟩ (nd lf ⟨Tryz.t114, _, by kernel_rfl, rfl, rfl, rfl, rfl⟩ lf)) ⟨Tryz.t117, _, by kernel_rfl, rfl, rfl, rfl, rfl⟩ (nd (nd lf ⟨Tryz.t118, _, by kernel_rfl, rfl, rfl, rfl, rfl⟩ lf) ⟨Tryz.t120, _, by kernel_rfl, rfl, rfl, rfl, rfl⟩ (nd lf ⟨Tryz.t124, _, by kernel_rfl, rfl, rfl, rfl, rfl⟩ lf))) ⟨Tryz.t129, _, by kernel_rfl, rfl, rfl, rfl, rfl⟩ (nd (nd (nd lf ⟨Tryz.t131, _, by kernel_rfl, rfl, rfl, rfl, rfl⟩ lf) ⟨Tryz.t133, _, by kernel_rfl, rfl, rfl, rfl, rfl⟩ (nd lf ⟨Tryz.t139, _, by kernel_rfl, rfl, rfl, rfl, rfl⟩ lf)) ⟨Tryz.t141, _, by kernel_rfl, rfl, rfl, rfl, rfl⟩ (nd (nd lf ⟨Tryz.t145, _, by kernel_rfl, rfl, rfl, rfl, rfl⟩ lf) ⟨Tryz.t154, _, by kernel_rfl, rfl, rfl, rfl, rfl⟩ (nd lf ⟨Tryz.t174, _, by kernel_rfl, rfl, rfl, rfl, rfl⟩ lf)))) ⟨Tryz.t182, _, by kernel_rfl, rfl, rfl, rfl, rfl⟩ (nd (nd (nd (nd lf ⟨Tryz.t201, _, by kernel_rfl, rfl, rfl, rfl, rfl⟩ lf) ⟨Tryz.t214, _, by kernel_rfl, rfl, rfl, rfl, rfl⟩ (nd lf ⟨Tryz.t217, _, by kernel_rfl, rfl, rfl, rfl, rfl⟩ lf)) ⟨Tryz.t234, _, by kernel_rfl, rfl, rfl, rfl, rfl⟩ (nd (nd lf ⟨Tryz.t248, _, by kernel_rfl, rfl, rfl, rfl, rfl⟩ lf) ⟨Tryz.t250, _, by kernel_rfl, rfl, rfl, rfl, rfl⟩ (nd lf ⟨Tryz.t251, _, by kernel_rfl, rfl, rfl, rfl, rfl⟩ lf))) ⟨Tryz.t252, _, by kernel_rfl, rfl, rfl, rfl, rfl⟩ (nd (nd (nd lf ⟨Tryz.t254, _, by kernel_rfl, rfl, rfl, rfl, rfl⟩ lf) ⟨Tryz.t255, _, by kernel_rfl, rfl, rfl, rfl, rfl⟩ (nd lf ⟨Tryz.t256, _, by kernel_rfl, rfl, rfl, rfl, rfl⟩ lf)) ⟨Tryz.t267, _, by kernel_rfl, rfl, rfl, rfl, rfl⟩ (nd (nd lf ⟨Tryz.t275, _, by kernel_rfl, rfl, rfl, rfl, rfl⟩ lf) ⟨Tryz.t279, _, by kernel_rfl, rfl, rfl, rfl, rfl⟩ (nd lf ⟨Tryz.t293, _, by kernel_rfl, rfl, rfl, rfl, rfl⟩ lf))))))
theorem bCy : fnB.All fun x => ∀ args w, (callFunc x.1 args).run Tryz.prog w = .ok (.enter x.1 args) w := (nd (nd (nd (nd (nd (nd (nd (nd lf Tryz.call3 lf) Tryz.call4 (nd lf Tryz.call5 lf)) Tryz.call6 (nd (nd lf Tryz.call7 lf) Tryz.call8 lf)) Tryz.call9 (nd (nd (nd lf Tryz.call10 lf) Tryz.call11 (nd lf Tryz.call12 lf)) Tryz.call13 (nd (nd lf Tryz.call14 lf) Tryz.call15 lf))) Tryz.call16 (nd (nd (nd (nd lf Tryz.call17 lf) Tryz.call18 (nd lf Tryz.call19 lf)) Tryz.call20 (nd (nd lf Tryz.call21 lf) Tryz.call22 lf)) Tryz.call23 (nd (nd (nd lf Tryz.call24 lf) Tryz.call25 (nd lf Tryz.call26 lf)) Tryz.call27 (nd (nd lf Tryz.call28 lf) Tryz.call29 lf)))) Tryz.call30 (nd (nd (nd (nd (nd lf Tryz.call31 lf) Tryz.call32 (nd lf Tryz.call33 lf)) Tryz.call34 (nd (nd lf Tryz.call35 lf) Tryz.call36 lf)) Tryz.call37 (nd (nd (nd lf Tryz.call38 lf) Tryz.call39 (nd lf Tryz.call40 lf)) Tryz.call41 (nd (nd lf Tryz.call42 lf) Tryz.call43 lf))) Tryz.call44 (nd (nd (nd (nd lf Tryz.call45 lf) Tryz.call46 (nd lf Tryz.call47 lf)) Tryz.call48 (nd (nd lf Tryz.call49 lf) Tryz.call50 lf)) Tryz.call51 (nd (nd (nd lf Tryz.call52 lf) Tryz.call53 lf) Tryz.call54 (nd (nd lf Tryz.call55 lf) Tryz.call56 lf))))) Tryz.call57 (nd (nd (nd (nd (nd (nd lf Tryz.call58 lf) Tryz.call59 (nd lf Tryz.call60 lf)) Tryz.call61 (nd (nd lf Tryz.call62 lf) Tryz.call64 lf)) Tryz.call65 (nd (nd (nd lf Tryz.call66 lf) Tryz.call67 (nd lf Tryz.call68 lf)) Tryz.call69 (nd (nd lf Tryz.call70 lf) Tryz.call71 lf))) Tryz.call72 (nd (nd (nd (nd lf Tryz.call73 lf) Tryz.call74 (nd lf Tryz.call75 lf)) Tryz.call76 (nd (nd lf Tryz.call77 lf) Tryz.call78 lf)) Tryz.call79 (nd (nd (nd lf Tryz.call80 lf) Tryz.call81 (nd lf Tryz.call82 lf)) Tryz.call83 (nd (nd lf Tryz.call84 lf) Tryz.call85 lf)))) Tryz.call86 (nd (nd (nd (nd (nd lf Tryz.call87 lf) Tryz.call88 (nd lf Tryz.call89 lf)) Tryz.call90 (nd (nd lf Tryz.call91 lf) Tryz.call92 lf)) Tryz.call93 (nd (nd (nd lf Tryz.call94 lf) Tryz.call95 (nd lf Tryz.call97 lf)) Tryz.call98 (nd (nd lf Tryz.call99 lf) Tryz.call100 lf))) Tryz.call101 (nd (nd (nd (nd lf Tryz.call102 lf) Tryz.call103 (nd lf Tryz.call104 lf)) Tryz.call105 (nd (nd lf Tryz.call106 lf) Tryz.call107 lf)) Tryz.call108 (nd (nd (nd lf Tryz.call109 lf) Tryz.call110 lf) Tryz.call114 (nd (nd lf Tryz.call115 lf) Tryz.call116 lf)))))) Tryz.call119 (nd (nd (nd (nd (nd (nd (nd lf Tryz.call120 lf) Tryz.call121 (nd lf Tryz.call122 lf)) Tryz.call123 (nd (nd lf Tryz.call125 lf) Tryz.call126 lf)) Tryz.call127 (nd (nd (nd lf Tryz.call128 lf) Tryz.call129 (nd lf Tryz.call130 lf)) Tryz.call131 (nd (nd lf Tryz.call132 lf) Tryz.call133 lf))) Tryz.call134 (nd (nd (nd (nd lf Tryz.call140 lf) Tryz.call141 (nd lf Tryz.call142 lf)) Tryz.call143 (nd (nd lf Tryz.call144 lf) Tryz.call145 lf)) Tryz.call146 (nd (nd (nd lf Tryz.call147 lf) Tryz.call148 (nd lf Tryz.call150 lf)) Tryz.call151 (nd (nd lf Tryz.call152 lf) Tryz.call153 lf)))) Tryz.call154 (nd (nd (nd (nd (nd lf Tryz.call155 lf) Tryz.call156 (nd lf Tryz.call157 lf)) Tryz.call158 (nd (nd lf Tryz.call159 lf) Tryz.call160 lf)) Tryz.call161 (nd (nd (nd lf Tryz.call162 lf) Tryz.call163 (nd lf Tryz.call164 lf)) Tryz.call165 (nd (nd lf Tryz.call166 lf) Tryz.call167 lf))) Tryz.call168 (nd (nd (nd (nd lf Tryz.call173 lf) Tryz.call174 (nd lf Tryz.call175 lf)) Tryz.call176 (nd (nd lf Tryz.call177 lf) Tryz.call178 lf)) Tryz.call179 (nd (nd (nd lf Tryz.call180 lf) Tryz.call181 lf) Tryz.call183 (nd (nd lf Tryz.call184 lf) Tryz.call185 lf))))) Tryz.call190 (nd (nd (nd (nd (nd (nd lf Tryz.call191 lf) Tryz.call192 (nd lf Tryz.call193 lf)) Tryz.call194 (nd (nd lf Tryz.call195 lf) Tryz.call196 lf)) Tryz.call197 (nd (nd (nd lf Tryz.call198 lf) Tryz.call199 (nd lf Tryz.call200 lf)) Tryz.call201 (nd (nd lf Tryz.call202 lf) Tryz.call205 lf))) Tryz.call206 (nd (nd (nd (nd lf Tryz.call208 lf) Tryz.call209 (nd lf Tryz.call211 lf)) Tryz.call212 (nd (nd lf Tryz.call213 lf) Tryz.call220 lf)) Tryz.call221 (nd (nd (nd lf Tryz.call222 lf) Tryz.call223 lf) Tryz.call224 (nd (nd lf Tryz.call225 lf) Tryz.call226 lf)))) Tryz.call227 (nd (nd (nd (nd (nd lf Tryz.call228 lf) Tryz.call229 (nd lf Tryz.call230 lf)) Tryz.call231 (nd (nd lf Tryz.call232 lf) Tryz.call233 lf)) Tryz.call234 (nd (nd (nd lf Tryz.call235 lf) Tryz.call240 (nd lf Tryz.call241 lf)) Tryz.call242 (nd (nd lf Tryz.call243 lf) Tryz.call244 lf))) Tryz.call245 (nd (nd (nd (nd lf Tryz.call248 lf) Tryz.call249 (nd lf Tryz.call250 lf)) Tryz.call251 (nd (nd lf Tryz.call252 lf) Tryz.call253 lf)) Tryz.call254 (nd (nd (nd lf Tryz.call255 lf) Tryz.call256 lf) Tryz.call265 (nd (nd lf Tryz.call266 lf) Tryz.call272 lf)))))))
theorem aV8 : Tryz.prog.follows .mixedOrders = true := by kernel_rfl
theorem ok : T.Ok where
  und t d h := BT.all_mem (y := (t, d)) bB0 (rE h)
  inf t z n h := BT.all_mem (y := (t, (z, n))) bB1 (rE h)
  fn f h args w := by
    obtain ⟨x, hx⟩ := Option.isSome_iff_exists.1 (show (aD7 fnB f).isSome = true from h)
    exact BT.all_mem bCy (rE hx) args w
  mixed := aV8
abbrev F.q3 : Nat := 3
theorem D.q3 : T.prog.funcs[F.q3]? = some Tryz.f3 := Tryz.func3
abbrev F.q4 : Nat := 4
theorem D.q4 : T.prog.funcs[F.q4]? = some Tryz.f4 := Tryz.func4
abbrev F.q5 : Nat := 5
theorem D.q5 : T.prog.funcs[F.q5]? = some Tryz.f5 := Tryz.func5
abbrev F.q6 : Nat := 6
theorem D.q6 : T.prog.funcs[F.q6]? = some Tryz.f6 := Tryz.func6
abbrev F.q7 : Nat := 7
theorem D.q7 : T.prog.funcs[F.q7]? = some Tryz.f7 := Tryz.func7
abbrev F.q8 : Nat := 8
theorem D.q8 : T.prog.funcs[F.q8]? = some Tryz.f8 := Tryz.func8
abbrev F.q9 : Nat := 9
theorem D.q9 : T.prog.funcs[F.q9]? = some Tryz.f9 := Tryz.func9
abbrev F.q10 : Nat := 10
theorem D.q10 : T.prog.funcs[F.q10]? = some Tryz.f10 := Tryz.func10
abbrev F.q11 : Nat := 11
theorem D.q11 : T.prog.funcs[F.q11]? = some Tryz.f11 := Tryz.func11
abbrev F.q12 : Nat := 12
theorem D.q12 : T.prog.funcs[F.q12]? = some Tryz.f12 := Tryz.func12
abbrev F.q13 : Nat := 13
theorem D.q13 : T.prog.funcs[F.q13]? = some Tryz.f13 := Tryz.func13
abbrev F.q14 : Nat := 14
theorem D.q14 : T.prog.funcs[F.q14]? = some Tryz.f14 := Tryz.func14
abbrev F.q15 : Nat := 15
theorem D.q15 : T.prog.funcs[F.q15]? = some Tryz.f15 := Tryz.func15
abbrev F.q16 : Nat := 16
theorem D.q16 : T.prog.funcs[F.q16]? = some Tryz.f16 := Tryz.func16
abbrev F.q17 : Nat := 17
theorem D.q17 : T.prog.funcs[F.q17]? = some Tryz.f17 := Tryz.func17
abbrev F.q18 : Nat := 18
theorem D.q18 : T.prog.funcs[F.q18]? = some Tryz.f18 := Tryz.func18
abbrev F.q19 : Nat := 19
theorem D.q19 : T.prog.funcs[F.q19]? = some Tryz.f19 := Tryz.func19
abbrev F.q20 : Nat := 20
theorem D.q20 : T.prog.funcs[F.q20]? = some Tryz.f20 := Tryz.func20
abbrev F.q21 : Nat := 21
theorem D.q21 : T.prog.funcs[F.q21]? = some Tryz.f21 := Tryz.func21
abbrev F.q22 : Nat := 22
theorem D.q22 : T.prog.funcs[F.q22]? = some Tryz.f22 := Tryz.func22
abbrev F.q23 : Nat := 23
theorem D.q23 : T.prog.funcs[F.q23]? = some Tryz.f23 := Tryz.func23
abbrev F.q24 : Nat := 24
theorem D.q24 : T.prog.funcs[F.q24]? = some Tryz.f24 := Tryz.func24
abbrev F.q25 : Nat := 25
theorem D.q25 : T.prog.funcs[F.q25]? = some Tryz.f25 := Tryz.func25
abbrev F.q26 : Nat := 26
theorem D.q26 : T.prog.funcs[F.q26]? = some Tryz.f26 := Tryz.func26
abbrev F.q27 : Nat := 27
theorem D.q27 : T.prog.funcs[F.q27]? = some Tryz.f27 := Tryz.func27
abbrev F.q28 : Nat := 28
theorem D.q28 : T.prog.funcs[F.q28]? = some Tryz.f28 := Tryz.func28
abbrev F.q29 : Nat := 29
theorem D.q29 : T.prog.funcs[F.q29]? = some Tryz.f29 := Tryz.func29
abbrev F.q30 : Nat := 30
theorem D.q30 : T.prog.funcs[F.q30]? = some Tryz.f30 := Tryz.func30
abbrev F.q31 : Nat := 31
theorem D.q31 : T.prog.funcs[F.q31]? = some Tryz.f31 := Tryz.func31
abbrev F.q32 : Nat := 32
theorem D.q32 : T.prog.funcs[F.q32]? = some Tryz.f32 := Tryz.func32
abbrev F.q33 : Nat := 33
theorem D.q33 : T.prog.funcs[F.q33]? = some Tryz.f33 := Tryz.func33
abbrev F.q34 : Nat := 34
abbrev F.q35 : Nat := 35
theorem D.q35 : T.prog.funcs[F.q35]? = some Tryz.f35 := Tryz.func35
abbrev F.q36 : Nat := 36
theorem D.q36 : T.prog.funcs[F.q36]? = some Tryz.f36 := Tryz.func36
abbrev F.q37 : Nat := 37
theorem D.q37 : T.prog.funcs[F.q37]? = some Tryz.f37 := Tryz.func37
abbrev F.q38 : Nat := 38
theorem D.q38 : T.prog.funcs[F.q38]? = some Tryz.f38 := Tryz.func38
abbrev F.q39 : Nat := 39
theorem D.q39 : T.prog.funcs[F.q39]? = some Tryz.f39 := Tryz.func39
abbrev F.q40 : Nat := 40
abbrev F.q41 : Nat := 41
theorem D.q41 : T.prog.funcs[F.q41]? = some Tryz.f41 := Tryz.func41
abbrev F.q42 : Nat := 42
theorem D.q42 : T.prog.funcs[F.q42]? = some Tryz.f42 := Tryz.func42
abbrev F.q43 : Nat := 43
theorem D.q43 : T.prog.funcs[F.q43]? = some Tryz.f43 := Tryz.func43
abbrev F.q44 : Nat := 44
theorem D.q44 : T.prog.funcs[F.q44]? = some Tryz.f44 := Tryz.func44
abbrev F.q45 : Nat := 45
theorem D.q45 : T.prog.funcs[F.q45]? = some Tryz.f45 := Tryz.func45
abbrev F.q46 : Nat := 46
theorem D.q46 : T.prog.funcs[F.q46]? = some Tryz.f46 := Tryz.func46
abbrev F.q47 : Nat := 47
theorem D.q47 : T.prog.funcs[F.q47]? = some Tryz.f47 := Tryz.func47
abbrev F.q48 : Nat := 48
theorem D.q48 : T.prog.funcs[F.q48]? = some Tryz.f48 := Tryz.func48
abbrev F.q49 : Nat := 49
theorem D.q49 : T.prog.funcs[F.q49]? = some Tryz.f49 := Tryz.func49
abbrev F.q50 : Nat := 50
abbrev F.q51 : Nat := 51
theorem D.q51 : T.prog.funcs[F.q51]? = some Tryz.f51 := Tryz.func51
abbrev F.q52 : Nat := 52
theorem D.q52 : T.prog.funcs[F.q52]? = some Tryz.f52 := Tryz.func52
abbrev F.q53 : Nat := 53
theorem D.q53 : T.prog.funcs[F.q53]? = some Tryz.f53 := Tryz.func53
abbrev F.q54 : Nat := 54
theorem D.q54 : T.prog.funcs[F.q54]? = some Tryz.f54 := Tryz.func54
abbrev F.q55 : Nat := 55
theorem D.q55 : T.prog.funcs[F.q55]? = some Tryz.f55 := Tryz.func55
abbrev F.q56 : Nat := 56
theorem D.q56 : T.prog.funcs[F.q56]? = some Tryz.f56 := Tryz.func56
abbrev F.q57 : Nat := 57
theorem D.q57 : T.prog.funcs[F.q57]? = some Tryz.f57 := Tryz.func57
abbrev F.q58 : Nat := 58
theorem D.q58 : T.prog.funcs[F.q58]? = some Tryz.f58 := Tryz.func58
abbrev F.q59 : Nat := 59
theorem D.q59 : T.prog.funcs[F.q59]? = some Tryz.f59 := Tryz.func59
abbrev F.q60 : Nat := 60
theorem D.q60 : T.prog.funcs[F.q60]? = some Tryz.f60 := Tryz.func60
abbrev F.q61 : Nat := 61
theorem D.q61 : T.prog.funcs[F.q61]? = some Tryz.f61 := Tryz.func61
abbrev F.q62 : Nat := 62
theorem D.q62 : T.prog.funcs[F.q62]? = some Tryz.f62 := Tryz.func62
abbrev F.q64 : Nat := 64
theorem D.q64 : T.prog.funcs[F.q64]? = some Tryz.f64 := Tryz.func64
abbrev F.q65 : Nat := 65
theorem D.q65 : T.prog.funcs[F.q65]? = some Tryz.f65 := Tryz.func65
abbrev F.q66 : Nat := 66
theorem D.q66 : T.prog.funcs[F.q66]? = some Tryz.f66 := Tryz.func66
abbrev F.q67 : Nat := 67
theorem D.q67 : T.prog.funcs[F.q67]? = some Tryz.f67 := Tryz.func67
abbrev F.q68 : Nat := 68
theorem D.q68 : T.prog.funcs[F.q68]? = some Tryz.f68 := Tryz.func68
abbrev F.q69 : Nat := 69
theorem D.q69 : T.prog.funcs[F.q69]? = some Tryz.f69 := Tryz.func69
abbrev F.q70 : Nat := 70
theorem D.q70 : T.prog.funcs[F.q70]? = some Tryz.f70 := Tryz.func70
abbrev F.q71 : Nat := 71
theorem D.q71 : T.prog.funcs[F.q71]? = some Tryz.f71 := Tryz.func71
abbrev F.q72 : Nat := 72
theorem D.q72 : T.prog.funcs[F.q72]? = some Tryz.f72 := Tryz.func72
abbrev F.q73 : Nat := 73
abbrev F.q74 : Nat := 74
theorem D.q74 : T.prog.funcs[F.q74]? = some Tryz.f74 := Tryz.func74
abbrev F.q75 : Nat := 75
theorem D.q75 : T.prog.funcs[F.q75]? = some Tryz.f75 := Tryz.func75
abbrev F.q76 : Nat := 76
theorem D.q76 : T.prog.funcs[F.q76]? = some Tryz.f76 := Tryz.func76
abbrev F.q77 : Nat := 77
theorem D.q77 : T.prog.funcs[F.q77]? = some Tryz.f77 := Tryz.func77
abbrev F.q78 : Nat := 78
theorem D.q78 : T.prog.funcs[F.q78]? = some Tryz.f78 := Tryz.func78
abbrev F.q79 : Nat := 79
theorem D.q79 : T.prog.funcs[F.q79]? = some Tryz.f79 := Tryz.func79
abbrev F.q80 : Nat := 80
theorem D.q80 : T.prog.funcs[F.q80]? = some Tryz.f80 := Tryz.func80
abbrev F.q81 : Nat := 81
theorem D.q81 : T.prog.funcs[F.q81]? = some Tryz.f81 := Tryz.func81
abbrev F.q82 : Nat := 82
abbrev F.q83 : Nat := 83
theorem D.q83 : T.prog.funcs[F.q83]? = some Tryz.f83 := Tryz.func83
abbrev F.q84 : Nat := 84
theorem D.q84 : T.prog.funcs[F.q84]? = some Tryz.f84 := Tryz.func84
abbrev F.q85 : Nat := 85
theorem D.q85 : T.prog.funcs[F.q85]? = some Tryz.f85 := Tryz.func85
abbrev F.q86 : Nat := 86
theorem D.q86 : T.prog.funcs[F.q86]? = some Tryz.f86 := Tryz.func86
abbrev F.q87 : Nat := 87
theorem D.q87 : T.prog.funcs[F.q87]? = some Tryz.f87 := Tryz.func87
abbrev F.q88 : Nat := 88
abbrev F.q89 : Nat := 89
abbrev F.q90 : Nat := 90
theorem D.q90 : T.prog.funcs[F.q90]? = some Tryz.f90 := Tryz.func90
abbrev F.q91 : Nat := 91
theorem D.q91 : T.prog.funcs[F.q91]? = some Tryz.f91 := Tryz.func91
abbrev F.q92 : Nat := 92
theorem D.q92 : T.prog.funcs[F.q92]? = some Tryz.f92 := Tryz.func92
abbrev F.q93 : Nat := 93
theorem D.q93 : T.prog.funcs[F.q93]? = some Tryz.f93 := Tryz.func93
abbrev F.q94 : Nat := 94
theorem D.q94 : T.prog.funcs[F.q94]? = some Tryz.f94 := Tryz.func94
abbrev F.q95 : Nat := 95
theorem D.q95 : T.prog.funcs[F.q95]? = some Tryz.f95 := Tryz.func95
abbrev F.q97 : Nat := 97
theorem D.q97 : T.prog.funcs[F.q97]? = some Tryz.f97 := Tryz.func97
abbrev F.q98 : Nat := 98
theorem D.q98 : T.prog.funcs[F.q98]? = some Tryz.f98 := Tryz.func98
abbrev F.q99 : Nat := 99
theorem D.q99 : T.prog.funcs[F.q99]? = some Tryz.f99 := Tryz.func99
abbrev F.q100 : Nat := 100
theorem D.q100 : T.prog.funcs[F.q100]? = some Tryz.f100 := Tryz.func100
abbrev F.q101 : Nat := 101
theorem D.q101 : T.prog.funcs[F.q101]? = some Tryz.f101 := Tryz.func101
abbrev F.q102 : Nat := 102
theorem D.q102 : T.prog.funcs[F.q102]? = some Tryz.f102 := Tryz.func102
abbrev F.q103 : Nat := 103
theorem D.q103 : T.prog.funcs[F.q103]? = some Tryz.f103 := Tryz.func103
abbrev F.q104 : Nat := 104
theorem D.q104 : T.prog.funcs[F.q104]? = some Tryz.f104 := Tryz.func104
abbrev F.q105 : Nat := 105
theorem D.q105 : T.prog.funcs[F.q105]? = some Tryz.f105 := Tryz.func105
abbrev F.q106 : Nat := 106
theorem D.q106 : T.prog.funcs[F.q106]? = some Tryz.f106 := Tryz.func106
abbrev F.q107 : Nat := 107
theorem D.q107 : T.prog.funcs[F.q107]? = some Tryz.f107 := Tryz.func107
abbrev F.q108 : Nat := 108
theorem D.q108 : T.prog.funcs[F.q108]? = some Tryz.f108 := Tryz.func108
abbrev F.q109 : Nat := 109
theorem D.q109 : T.prog.funcs[F.q109]? = some Tryz.f109 := Tryz.func109
abbrev F.q110 : Nat := 110
theorem D.q110 : T.prog.funcs[F.q110]? = some Tryz.f110 := Tryz.func110
abbrev F.q114 : Nat := 114
theorem D.q114 : T.prog.funcs[F.q114]? = some Tryz.f114 := Tryz.func114
abbrev F.q115 : Nat := 115
theorem D.q115 : T.prog.funcs[F.q115]? = some Tryz.f115 := Tryz.func115
abbrev F.q116 : Nat := 116
theorem D.q116 : T.prog.funcs[F.q116]? = some Tryz.f116 := Tryz.func116
abbrev F.q119 : Nat := 119
theorem D.q119 : T.prog.funcs[F.q119]? = some Tryz.f119 := Tryz.func119
abbrev F.q120 : Nat := 120
theorem D.q120 : T.prog.funcs[F.q120]? = some Tryz.f120 := Tryz.func120
abbrev F.q121 : Nat := 121
theorem D.q121 : T.prog.funcs[F.q121]? = some Tryz.f121 := Tryz.func121
abbrev F.q122 : Nat := 122
theorem D.q122 : T.prog.funcs[F.q122]? = some Tryz.f122 := Tryz.func122
abbrev F.q123 : Nat := 123
abbrev F.q125 : Nat := 125
theorem D.q125 : T.prog.funcs[F.q125]? = some Tryz.f125 := Tryz.func125
abbrev F.q126 : Nat := 126
theorem D.q126 : T.prog.funcs[F.q126]? = some Tryz.f126 := Tryz.func126
abbrev F.q127 : Nat := 127
theorem D.q127 : T.prog.funcs[F.q127]? = some Tryz.f127 := Tryz.func127
abbrev F.q128 : Nat := 128
theorem D.q128 : T.prog.funcs[F.q128]? = some Tryz.f128 := Tryz.func128
abbrev F.q129 : Nat := 129
theorem D.q129 : T.prog.funcs[F.q129]? = some Tryz.f129 := Tryz.func129
abbrev F.q130 : Nat := 130
theorem D.q130 : T.prog.funcs[F.q130]? = some Tryz.f130 := Tryz.func130
abbrev F.q131 : Nat := 131
theorem D.q131 : T.prog.funcs[F.q131]? = some Tryz.f131 := Tryz.func131
abbrev F.q132 : Nat := 132
theorem D.q132 : T.prog.funcs[F.q132]? = some Tryz.f132 := Tryz.func132
abbrev F.q133 : Nat := 133
theorem D.q133 : T.prog.funcs[F.q133]? = some Tryz.f133 := Tryz.func133
abbrev F.q134 : Nat := 134
theorem D.q134 : T.prog.funcs[F.q134]? = some Tryz.f134 := Tryz.func134
abbrev F.q140 : Nat := 140
theorem D.q140 : T.prog.funcs[F.q140]? = some Tryz.f140 := Tryz.func140
abbrev F.q141 : Nat := 141
theorem D.q141 : T.prog.funcs[F.q141]? = some Tryz.f141 := Tryz.func141
abbrev F.q142 : Nat := 142
theorem D.q142 : T.prog.funcs[F.q142]? = some Tryz.f142 := Tryz.func142
abbrev F.q143 : Nat := 143
theorem D.q143 : T.prog.funcs[F.q143]? = some Tryz.f143 := Tryz.func143
abbrev F.q144 : Nat := 144
theorem D.q144 : T.prog.funcs[F.q144]? = some Tryz.f144 := Tryz.func144
abbrev F.q145 : Nat := 145
theorem D.q145 : T.prog.funcs[F.q145]? = some Tryz.f145 := Tryz.func145
abbrev F.q146 : Nat := 146
theorem D.q146 : T.prog.funcs[F.q146]? = some Tryz.f146 := Tryz.func146
abbrev F.q147 : Nat := 147
theorem D.q147 : T.prog.funcs[F.q147]? = some Tryz.f147 := Tryz.func147
abbrev F.q148 : Nat := 148
theorem D.q148 : T.prog.funcs[F.q148]? = some Tryz.f148 := Tryz.func148
abbrev F.q150 : Nat := 150
theorem D.q150 : T.prog.funcs[F.q150]? = some Tryz.f150 := Tryz.func150
abbrev F.q151 : Nat := 151
theorem D.q151 : T.prog.funcs[F.q151]? = some Tryz.f151 := Tryz.func151
abbrev F.q152 : Nat := 152
abbrev F.q153 : Nat := 153
abbrev F.q154 : Nat := 154
theorem D.q154 : T.prog.funcs[F.q154]? = some Tryz.f154 := Tryz.func154
abbrev F.q155 : Nat := 155
theorem D.q155 : T.prog.funcs[F.q155]? = some Tryz.f155 := Tryz.func155
abbrev F.q156 : Nat := 156
theorem D.q156 : T.prog.funcs[F.q156]? = some Tryz.f156 := Tryz.func156
abbrev F.q157 : Nat := 157
theorem D.q157 : T.prog.funcs[F.q157]? = some Tryz.f157 := Tryz.func157
abbrev F.q158 : Nat := 158
theorem D.q158 : T.prog.funcs[F.q158]? = some Tryz.f158 := Tryz.func158
abbrev F.q159 : Nat := 159
theorem D.q159 : T.prog.funcs[F.q159]? = some Tryz.f159 := Tryz.func159
abbrev F.q160 : Nat := 160
theorem D.q160 : T.prog.funcs[F.q160]? = some Tryz.f160 := Tryz.func160
abbrev F.q161 : Nat := 161
theorem D.q161 : T.prog.funcs[F.q161]? = some Tryz.f161 := Tryz.func161
abbrev F.q162 : Nat := 162
theorem D.q162 : T.prog.funcs[F.q162]? = some Tryz.f162 := Tryz.func162
abbrev F.q163 : Nat := 163
theorem D.q163 : T.prog.funcs[F.q163]? = some Tryz.f163 := Tryz.func163
abbrev F.q164 : Nat := 164
theorem D.q164 : T.prog.funcs[F.q164]? = some Tryz.f164 := Tryz.func164
abbrev F.q165 : Nat := 165
theorem D.q165 : T.prog.funcs[F.q165]? = some Tryz.f165 := Tryz.func165
abbrev F.q166 : Nat := 166
theorem D.q166 : T.prog.funcs[F.q166]? = some Tryz.f166 := Tryz.func166
abbrev F.q167 : Nat := 167
theorem D.q167 : T.prog.funcs[F.q167]? = some Tryz.f167 := Tryz.func167
abbrev F.q168 : Nat := 168
theorem D.q168 : T.prog.funcs[F.q168]? = some Tryz.f168 := Tryz.func168
abbrev F.q173 : Nat := 173
theorem D.q173 : T.prog.funcs[F.q173]? = some Tryz.f173 := Tryz.func173
abbrev F.q174 : Nat := 174
theorem D.q174 : T.prog.funcs[F.q174]? = some Tryz.f174 := Tryz.func174
abbrev F.q175 : Nat := 175
theorem D.q175 : T.prog.funcs[F.q175]? = some Tryz.f175 := Tryz.func175
abbrev F.q176 : Nat := 176
theorem D.q176 : T.prog.funcs[F.q176]? = some Tryz.f176 := Tryz.func176
abbrev F.q177 : Nat := 177
theorem D.q177 : T.prog.funcs[F.q177]? = some Tryz.f177 := Tryz.func177
abbrev F.q178 : Nat := 178
theorem D.q178 : T.prog.funcs[F.q178]? = some Tryz.f178 := Tryz.func178
abbrev F.q179 : Nat := 179
abbrev F.q180 : Nat := 180
theorem D.q180 : T.prog.funcs[F.q180]? = some Tryz.f180 := Tryz.func180
abbrev F.q181 : Nat := 181
abbrev F.q183 : Nat := 183
theorem D.q183 : T.prog.funcs[F.q183]? = some Tryz.f183 := Tryz.func183
abbrev F.q184 : Nat := 184
theorem D.q184 : T.prog.funcs[F.q184]? = some Tryz.f184 := Tryz.func184
abbrev F.q185 : Nat := 185
theorem D.q185 : T.prog.funcs[F.q185]? = some Tryz.f185 := Tryz.func185
abbrev F.q190 : Nat := 190
theorem D.q190 : T.prog.funcs[F.q190]? = some Tryz.f190 := Tryz.func190
abbrev F.q191 : Nat := 191
theorem D.q191 : T.prog.funcs[F.q191]? = some Tryz.f191 := Tryz.func191
abbrev F.q192 : Nat := 192
theorem D.q192 : T.prog.funcs[F.q192]? = some Tryz.f192 := Tryz.func192
abbrev F.q193 : Nat := 193
theorem D.q193 : T.prog.funcs[F.q193]? = some Tryz.f193 := Tryz.func193
abbrev F.q194 : Nat := 194
theorem D.q194 : T.prog.funcs[F.q194]? = some Tryz.f194 := Tryz.func194
abbrev F.q195 : Nat := 195
theorem D.q195 : T.prog.funcs[F.q195]? = some Tryz.f195 := Tryz.func195
abbrev F.q196 : Nat := 196
theorem D.q196 : T.prog.funcs[F.q196]? = some Tryz.f196 := Tryz.func196
abbrev F.q197 : Nat := 197
theorem D.q197 : T.prog.funcs[F.q197]? = some Tryz.f197 := Tryz.func197
abbrev F.q198 : Nat := 198
theorem D.q198 : T.prog.funcs[F.q198]? = some Tryz.f198 := Tryz.func198
abbrev F.q199 : Nat := 199
theorem D.q199 : T.prog.funcs[F.q199]? = some Tryz.f199 := Tryz.func199
abbrev F.q200 : Nat := 200
theorem D.q200 : T.prog.funcs[F.q200]? = some Tryz.f200 := Tryz.func200
abbrev F.q201 : Nat := 201
theorem D.q201 : T.prog.funcs[F.q201]? = some Tryz.f201 := Tryz.func201
abbrev F.q202 : Nat := 202
theorem D.q202 : T.prog.funcs[F.q202]? = some Tryz.f202 := Tryz.func202
abbrev F.q205 : Nat := 205
theorem D.q205 : T.prog.funcs[F.q205]? = some Tryz.f205 := Tryz.func205
abbrev F.q206 : Nat := 206
theorem D.q206 : T.prog.funcs[F.q206]? = some Tryz.f206 := Tryz.func206
abbrev F.q208 : Nat := 208
abbrev F.q209 : Nat := 209
theorem D.q209 : T.prog.funcs[F.q209]? = some Tryz.f209 := Tryz.func209
abbrev F.q211 : Nat := 211
theorem D.q211 : T.prog.funcs[F.q211]? = some Tryz.f211 := Tryz.func211
abbrev F.q212 : Nat := 212
theorem D.q212 : T.prog.funcs[F.q212]? = some Tryz.f212 := Tryz.func212
abbrev F.q213 : Nat := 213
abbrev F.q220 : Nat := 220
theorem D.q220 : T.prog.funcs[F.q220]? = some Tryz.f220 := Tryz.func220
abbrev F.q221 : Nat := 221
theorem D.q221 : T.prog.funcs[F.q221]? = some Tryz.f221 := Tryz.func221
abbrev F.q222 : Nat := 222
theorem D.q222 : T.prog.funcs[F.q222]? = some Tryz.f222 := Tryz.func222
abbrev F.q223 : Nat := 223
theorem D.q223 : T.prog.funcs[F.q223]? = some Tryz.f223 := Tryz.func223
abbrev F.q224 : Nat := 224
theorem D.q224 : T.prog.funcs[F.q224]? = some Tryz.f224 := Tryz.func224
abbrev F.q225 : Nat := 225
theorem D.q225 : T.prog.funcs[F.q225]? = some Tryz.f225 := Tryz.func225
abbrev F.q226 : Nat := 226
theorem D.q226 : T.prog.funcs[F.q226]? = some Tryz.f226 := Tryz.func226
abbrev F.q227 : Nat := 227
theorem D.q227 : T.prog.funcs[F.q227]? = some Tryz.f227 := Tryz.func227
abbrev F.q228 : Nat := 228
theorem D.q228 : T.prog.funcs[F.q228]? = some Tryz.f228 := Tryz.func228
abbrev F.q229 : Nat := 229
abbrev F.q230 : Nat := 230
abbrev F.q231 : Nat := 231
theorem D.q231 : T.prog.funcs[F.q231]? = some Tryz.f231 := Tryz.func231
abbrev F.q232 : Nat := 232
abbrev F.q233 : Nat := 233
abbrev F.q234 : Nat := 234
abbrev F.q235 : Nat := 235
abbrev F.q240 : Nat := 240
theorem D.q240 : T.prog.funcs[F.q240]? = some Tryz.f240 := Tryz.func240
abbrev F.q241 : Nat := 241
theorem D.q241 : T.prog.funcs[F.q241]? = some Tryz.f241 := Tryz.func241
abbrev F.q242 : Nat := 242
theorem D.q242 : T.prog.funcs[F.q242]? = some Tryz.f242 := Tryz.func242
abbrev F.q243 : Nat := 243
theorem D.q243 : T.prog.funcs[F.q243]? = some Tryz.f243 := Tryz.func243
abbrev F.q244 : Nat := 244
theorem D.q244 : T.prog.funcs[F.q244]? = some Tryz.f244 := Tryz.func244
abbrev F.q245 : Nat := 245
theorem D.q245 : T.prog.funcs[F.q245]? = some Tryz.f245 := Tryz.func245
abbrev F.q248 : Nat := 248
theorem D.q248 : T.prog.funcs[F.q248]? = some Tryz.f248 := Tryz.func248
abbrev F.q249 : Nat := 249
abbrev F.q250 : Nat := 250
abbrev F.q251 : Nat := 251
abbrev F.q252 : Nat := 252
abbrev F.q253 : Nat := 253
abbrev F.q254 : Nat := 254
theorem D.q254 : T.prog.funcs[F.q254]? = some Tryz.f254 := Tryz.func254
abbrev F.q255 : Nat := 255
theorem D.q255 : T.prog.funcs[F.q255]? = some Tryz.f255 := Tryz.func255
abbrev F.q256 : Nat := 256
theorem D.q256 : T.prog.funcs[F.q256]? = some Tryz.f256 := Tryz.func256
abbrev F.q265 : Nat := 265
abbrev F.q266 : Nat := 266
theorem D.q266 : T.prog.funcs[F.q266]? = some Tryz.f266 := Tryz.func266
abbrev F.q272 : Nat := 272
theorem D.q272 : T.prog.funcs[F.q272]? = some Tryz.f272 := Tryz.func272
abbrev Ty.int64 : Nat := 2
abbrev Ty.int : Nat := 3
abbrev Ty.bool : Nat := 4
abbrev Ty.uint8 : Nat := 5
abbrev Ty.int32 : Nat := 21
abbrev Ty.api_Rat : Nat := 24
abbrev Ty.api_Expr : Nat := 27
abbrev Ty.top_Shift : Nat := 30
abbrev Ty.ref01_Nat : Nat := 34
abbrev Ty.ref01_Q : Nat := 36
abbrev Ty.api_Errno : Nat := 40
abbrev Ty.uint64 : Nat := 61
abbrev Ty.api_Value : Nat := 64
abbrev Ty.syntax_Fault : Nat := 78
abbrev Ty.expr_poly : Nat := 84
abbrev Ty.word_Nat : Nat := 87
abbrev Ty.word_Frac : Nat := 89
abbrev Ty.expr_term : Nat := 92
abbrev Ty.api_Factor : Nat := 96
abbrev Ty.api_Term : Nat := 98
abbrev Ty.uint32 : Nat := 105
abbrev Ty.syntax_Token : Nat := 124
abbrev Ty.syntax_Parser : Nat := 131
abbrev Ty.syntax_count : Nat := 139
abbrev Ty.expr_failure : Nat := 141
abbrev Ty.expr_operand : Nat := 201
abbrev Gl.internal_bytealg_MaxLen : Nat := 0
abbrev Gl.unicode_utf8_first : Nat := 1
abbrev Gl.unicode_utf8_acceptRanges : Nat := 2
abbrev Gl.math_bits_deBruijn32tab : Nat := 3
abbrev Gl.internal_strconv_uint64pow10 : Nat := 4
abbrev Gl.math_bits_deBruijn64tab : Nat := 5
end Go.Proofs.Y