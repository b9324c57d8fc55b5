/- The tables of this seat's translation as the engine wants them: the types' shapes and zero values, the functions' numbers by name. Printed by program; every row is checked by Lean. -/
import Derived.Test.YtdemgbmndijkkaaGreatDoorProg
import Derived.Test.YtdemgbmndijkkaaGreatDoorVcRule
import Derived.KernelRfl
set_option linter.unusedVariables false
set_option linter.unusedSimpArgs false
namespace Go.Proofs.YtdemgbmndijkkaaGreatDoor
open Go Go.Vc
/-- a search tree -/
inductive BT (α : Type) where
  | leaf
  | node (l : BT α) (k : Nat) (x : α) (r : BT α)
def look {α : Type} : BT α → Nat → Option α
  | .leaf, _ => none
  | .node l k x r, t => match Nat.beq t k with
    | true => some x
    | false => match Nat.blt t k with
      | true => look l t
      | false => look r t
def BT.toL {α : Type} : BT α → List (Nat × α)
  | .leaf => []
  | .node l k x r => l.toL ++ (k, x) :: r.toL
theorem look_mem {α : Type} : ∀ {b : BT α} {t : Nat} {x : α}, look b t = some x → (t, x) ∈ b.toL
  | .leaf, _, _, h => by simp [look] at h
  | .node l k y r, t, x, h => by
    simp only [look] at h
    split at h
    · rename_i e
      obtain rfl := Nat.eq_of_beq_eq_true e
      cases h; simp [BT.toL]
    · split at h
      · exact List.mem_append_left _ (look_mem h)
      · exact List.mem_append_right _ (List.mem_cons_of_mem _ (look_mem h))
set_option maxRecDepth 100000 in
def undB : BT TypeDesc := (.node (.node (.node (.node (.node (.node (.node (.node .leaf 1 (.func #[] #[] false) .leaf) 2 (.int .i64) .leaf) 3 (.int .i64) (.node .leaf 4 (.bool) .leaf)) 5 (.int .u8) (.node (.node (.node .leaf 6 (.int .u8) .leaf) 7 (.struct #[⟨"x", 2, 0, false, "", "runtime", 0⟩, ⟨"y", 3, 1, false, "", "runtime", 8⟩, ⟨"signed", 4, 2, false, "", "runtime", 16⟩, ⟨"code", 6, 3, false, "", "runtime", 17⟩]) .leaf) 8 (.struct #[⟨"x", 2, 0, false, "", "runtime", 0⟩, ⟨"y", 3, 1, false, "", "runtime", 8⟩, ⟨"signed", 4, 2, false, "", "runtime", 16⟩, ⟨"code", 6, 3, false, "", "runtime", 17⟩]) (.node .leaf 9 (.string) .leaf))) 10 (.string) (.node (.node (.node (.node .leaf 11 (.string) .leaf) 12 (.int .u64) .leaf) 13 (.struct #[⟨"msg", 9, 0, false, "", "runtime", 0⟩, ⟨"addr", 12, 1, false, "", "runtime", 16⟩]) (.node .leaf 14 (.struct #[⟨"msg", 9, 0, false, "", "runtime", 0⟩, ⟨"addr", 12, 1, false, "", "runtime", 16⟩]) .leaf)) 15 (.pointer 149) (.node (.node .leaf 16 (.pointer 152) .leaf) 17 (.pointer 160) (.node .leaf 18 (.struct #[⟨"typ", 17, 0, false, "", "internal/runtime/maps", 0⟩]) .leaf)))) 19 (.struct #[⟨"typ", 17, 0, false, "", "internal/runtime/maps", 0⟩]) (.node (.node (.node (.node (.node .leaf 21 (.int .i32) .leaf) 22 (.slice 56) .leaf) 23 (.struct #[⟨"Neg", 4, 0, false, "", "", 0⟩, ⟨"Num", 22, 1, false, "", "", 8⟩, ⟨"Den", 22, 2, false, "", "", 32⟩]) (.node .leaf 24 (.struct #[⟨"Neg", 4, 0, false, "", "", 0⟩, ⟨"Num", 22, 1, false, "", "", 8⟩, ⟨"Den", 22, 2, false, "", "", 32⟩]) .leaf)) 25 (.struct #[⟨"X", 24, 0, false, "", "", 0⟩, ⟨"Y", 24, 3, false, "", "", 56⟩, ⟨"P", 3, 6, false, "", "", 112⟩, ⟨"Q", 3, 7, false, "", "", 120⟩]) (.node (.node .leaf 26 (.struct #[⟨"X", 24, 0, false, "", "", 0⟩, ⟨"Y", 24, 3, false, "", "", 56⟩, ⟨"P", 3, 6, false, "", "", 112⟩, ⟨"Q", 3, 7, false, "", "", 120⟩]) .leaf) 27 (.slice 56) (.node .leaf 28 (.struct #[⟨"Neg", 4, 0, false, "", "", 0⟩, ⟨"N", 27, 1, false, "", "", 8⟩, ⟨"D", 27, 2, false, "", "", 32⟩]) .leaf))) 29 (.struct #[⟨"Neg", 4, 0, false, "", "", 0⟩, ⟨"N", 27, 1, false, "", "", 8⟩, ⟨"D", 27, 2, false, "", "", 32⟩]) (.node (.node (.node (.node .leaf 30 (.func #[24] #[29] false) .leaf) 32 (.func #[3, 29, 3] #[29, 29, 4] false) .leaf) 33 (.func #[29, 29] #[29] false) (.node .leaf 34 (.func #[29, 29, 29, 29] #[4] false) .leaf)) 36 (.func #[29, 29, 29, 29] #[29, 29] false) (.node (.node .leaf 37 (.func #[3] #[29] false) .leaf) 38 (.func #[] #[4] false) (.node .leaf 39 (.func #[26] #[4] false) .leaf))))) 40 (.func #[22] #[27] false) (.node (.node (.node (.node (.node (.node .leaf 41 (.func #[42] #[27] false) .leaf) 42 (.int .u64) .leaf) 43 (.func #[4, 27, 27] #[29] false) (.node .leaf 44 (.struct #[⟨"Lo", 24, 0, false, "", "", 0⟩, ⟨"Hi", 24, 3, false, "", "", 56⟩]) .leaf)) 45 (.struct #[⟨"Lo", 24, 0, false, "", "", 0⟩, ⟨"Hi", 24, 3, false, "", "", 56⟩]) (.node (.node .leaf 46 (.int .i64) .leaf) 48 (.func #[3, 24, 3] #[45, 46] false) (.node .leaf 49 (.func #[29] #[24] false) .leaf))) 50 (.func #[27, 27] #[27] false) (.node (.node (.node (.node .leaf 51 (.func #[] #[27] false) .leaf) 52 (.func #[27, 27] #[3] false) .leaf) 53 (.func #[29, 29] #[3] false) (.node .leaf 54 (.func #[29] #[29] false) .leaf)) 55 (.func #[24, 3] #[45, 46] false) (.node (.node .leaf 56 (.int .u32) .leaf) 57 (.func #[27] #[27] false) (.node .leaf 59 (.func #[27, 27] #[27, 27] false) .leaf)))) 60 (.slice 55) (.node (.node (.node (.node (.node .leaf 62 (.func #[3, 24] #[24, 46] false) .leaf) 63 (.func #[3, 24, 3, 55] #[45, 46] false) .leaf) 64 (.func #[27] #[22] false) (.node .leaf 65 (.func #[29] #[3] false) .leaf)) 67 (.func #[27, 56] #[27, 56] false) (.node (.node .leaf 68 (.int .u64) .leaf) 69 (.func #[27, 3] #[27] false) (.node .leaf 70 (.func #[27, 27] #[56] false) .leaf))) 71 (.slice 56) (.node (.node (.node (.node .leaf 72 (.struct #[⟨"lo", 71, 0, false, "", "inequality/elem", 0⟩, ⟨"hi", 71, 1, false, "", "inequality/elem", 24⟩]) .leaf) 73 (.struct #[⟨"lo", 71, 0, false, "", "inequality/elem", 0⟩, ⟨"hi", 71, 1, false, "", "inequality/elem", 24⟩]) .leaf) 74 (.func #[24, 3] #[73] false) (.node .leaf 75 (.func #[3] #[71] false) .leaf)) 77 (.func #[71] #[71] false) (.node (.node .leaf 78 (.func #[56] #[71, 56] false) .leaf) 79 (.func #[71, 71, 4] #[71] false) (.node .leaf 80 (.func #[71, 3] #[71] false) .leaf)))))) 81 (.func #[42] #[71] false) (.node (.node (.node (.node (.node (.node (.node .leaf 82 (.func #[3, 3, 4] #[45] false) .leaf) 83 (.func #[71, 3, 4] #[24] false) .leaf) 84 (.func #[22] #[71] false) (.node .leaf 85 (.func #[24] #[71] false) .leaf)) 86 (.func #[] #[3] false) (.node (.node (.node .leaf 87 (.func #[71] #[3] false) .leaf) 88 (.func #[73, 3] #[73] false) .leaf) 89 (.func #[71, 71, 71, 71, 3, 3] #[45] false) (.node .leaf 90 (.struct #[⟨"lo", 24, 0, false, "", "inequality/elem", 0⟩, ⟨"hi", 24, 3, false, "", "inequality/elem", 56⟩]) .leaf))) 91 (.struct #[⟨"lo", 24, 0, false, "", "inequality/elem", 0⟩, ⟨"hi", 24, 3, false, "", "inequality/elem", 56⟩]) (.node (.node (.node (.node .leaf 93 (.func #[24, 3] #[91, 91] false) .leaf) 94 (.func #[24, 24, 3] #[45] false) .leaf) 95 (.func #[24, 24] #[24, 46] false) (.node .leaf 96 (.array 2 24) .leaf)) 97 (.slice 96) (.node (.node .leaf 99 (.func #[24, 24] #[3, 46] false) .leaf) 100 (.func #[3] #[73] false) (.node .leaf 101 (.func #[24, 42] #[4] false) .leaf)))) 102 (.func #[24] #[24, 46] false) (.node (.node (.node (.node (.node .leaf 103 (.func #[3, 24, 3] #[24, 46] false) .leaf) 105 (.func #[3, 24] #[24, 4] false) .leaf) 106 (.func #[27, 27, 42] #[4] false) (.node .leaf 108 (.func #[71] #[71, 71] false) .leaf)) 109 (.func #[3] #[4] false) (.node (.node .leaf 110 (.func #[56] #[3] false) .leaf) 112 (.func #[24, 3] #[91, 3] false) (.node .leaf 113 (.func #[91, 3] #[91] false) .leaf))) 114 (.func #[] #[91] false) (.node (.node (.node (.node .leaf 115 (.func #[24, 3] #[24, 46] false) .leaf) 116 (.struct #[⟨"Neg", 4, 0, false, "", "", 0⟩, ⟨"Num", 71, 1, false, "", "", 8⟩, ⟨"Den", 71, 2, false, "", "", 32⟩]) .leaf) 117 (.struct #[⟨"Neg", 4, 0, false, "", "", 0⟩, ⟨"Num", 71, 1, false, "", "", 8⟩, ⟨"Den", 71, 2, false, "", "", 32⟩]) (.node .leaf 119 (.func #[24] #[117, 4] false) .leaf)) 120 (.func #[117] #[117] false) (.node (.node .leaf 121 (.func #[] #[117] false) .leaf) 122 (.func #[] #[24, 46] false) (.node .leaf 123 (.func #[117] #[3] false) .leaf))))) 124 (.func #[3] #[24] false) (.node (.node (.node (.node (.node (.node .leaf 125 (.func #[24, 3, 3] #[24, 46] false) .leaf) 126 (.func #[24] #[24] false) .leaf) 127 (.func #[42] #[73] false) (.node .leaf 128 (.func #[24, 120] #[24, 46] false) .leaf)) 129 (.func #[3, 24] #[4] false) (.node (.node .leaf 130 (.func #[24] #[4] false) .leaf) 131 (.func #[22, 71] #[56] false) (.node .leaf 132 (.func #[24, 24, 133] #[24, 46] false) .leaf))) 133 (.func #[117, 117] #[117] false) (.node (.node (.node (.node .leaf 134 (.func #[24] #[3] false) .leaf) 135 (.func #[24, 3] #[71] false) .leaf) 136 (.func #[71, 3, 3] #[73] false) (.node .leaf 137 (.func #[24, 4] #[24] false) .leaf)) 138 (.func #[24, 3, 4] #[24, 46] false) (.node (.node .leaf 139 (.func #[4, 71, 71] #[117] false) .leaf) 140 (.func #[22] #[22] false) (.node .leaf 141 (.func #[3] #[117] false) .leaf)))) 142 (.func #[24, 3, 3, 4] #[24, 46] false) (.node (.node (.node (.node (.node .leaf 144 (.func #[3] #[71, 4] false) .leaf) 145 (.func #[3, 4] #[117] false) .leaf) 146 (.array 32 5) (.node .leaf 147 (.func #[] #[9] false) .leaf)) 148 (.struct #[⟨"_interface", 17, 0, false, "", "runtime", 0⟩, ⟨"concrete", 17, 1, false, "", "runtime", 8⟩, ⟨"asserted", 17, 2, false, "", "runtime", 16⟩, ⟨"missingMethod", 9, 3, false, "", "runtime", 24⟩]) (.node (.node .leaf 149 (.struct #[⟨"_interface", 17, 0, false, "", "runtime", 0⟩, ⟨"concrete", 17, 1, false, "", "runtime", 8⟩, ⟨"asserted", 17, 2, false, "", "runtime", 16⟩, ⟨"missingMethod", 9, 3, false, "", "runtime", 24⟩]) .leaf) 150 (.array 0 16) (.node .leaf 151 (.struct #[⟨"_", 150, 0, false, "", "runtime", 0⟩]) .leaf))) 152 (.struct #[⟨"_", 150, 0, false, "", "runtime", 0⟩]) (.node (.node (.node (.node .leaf 153 (.int .u8) .leaf) 154 (.int .u8) .leaf) 155 (.func #[161, 161] #[4] false) (.node .leaf 156 (.pointer 5) .leaf)) 157 (.int .i32) (.node (.node .leaf 158 (.int .i32) .leaf) 159 (.struct #[⟨"Size_", 12, 0, false, "", "", 0⟩, ⟨"PtrBytes", 12, 1, false, "", "", 8⟩, ⟨"Hash", 56, 2, false, "", "", 16⟩, ⟨"TFlag", 153, 3, false, "", "", 20⟩, ⟨"Align_", 5, 4, false, "", "", 21⟩, ⟨"FieldAlign_", 5, 5, false, "", "", 22⟩, ⟨"Kind_", 154, 6, false, "", "", 23⟩, ⟨"Equal", 155, 7, false, "", "", 24⟩, ⟨"GCData", 156, 8, false, "", "", 32⟩, ⟨"Str", 157, 9, false, "", "", 40⟩, ⟨"PtrToThis", 158, 10, false, "", "", 44⟩]) (.node .leaf 160 (.struct #[⟨"Size_", 12, 0, false, "", "", 0⟩, ⟨"PtrBytes", 12, 1, false, "", "", 8⟩, ⟨"Hash", 56, 2, false, "", "", 16⟩, ⟨"TFlag", 153, 3, false, "", "", 20⟩, ⟨"Align_", 5, 4, false, "", "", 21⟩, ⟨"FieldAlign_", 5, 5, false, "", "", 22⟩, ⟨"Kind_", 154, 6, false, "", "", 23⟩, ⟨"Equal", 155, 7, false, "", "", 24⟩, ⟨"GCData", 156, 8, false, "", "", 32⟩, ⟨"Str", 157, 9, false, "", "", 40⟩, ⟨"PtrToThis", 158, 10, false, "", "", 44⟩]) .leaf)))))))
set_option maxRecDepth 100000 in
def infB : BT (List Value × Nat) := (.node (.node (.node (.node (.node (.node (.node (.node .leaf 1 ([.nilFunc], 8) .leaf) 2 ([.int .i64 0], 8) .leaf) 3 ([.int .i64 0], 8) (.node .leaf 4 ([.bool false], 1) .leaf)) 5 ([.int .u8 0], 1) (.node (.node (.node .leaf 6 ([.int .u8 0], 1) .leaf) 7 ([.int .i64 0, .int .i64 0, .bool false, .int .u8 0], 24) .leaf) 8 ([.int .i64 0, .int .i64 0, .bool false, .int .u8 0], 24) (.node .leaf 9 ([.string ByteArray.empty], 16) .leaf))) 10 ([.string ByteArray.empty], 16) (.node (.node (.node (.node .leaf 11 ([.string ByteArray.empty], 16) .leaf) 12 ([.int .u64 0], 8) .leaf) 13 ([.string ByteArray.empty, .int .u64 0], 24) (.node .leaf 14 ([.string ByteArray.empty, .int .u64 0], 24) .leaf)) 15 ([.pointer none], 8) (.node (.node .leaf 16 ([.pointer none], 8) .leaf) 17 ([.pointer none], 8) (.node .leaf 18 ([.pointer none], 8) .leaf)))) 19 ([.pointer none], 8) (.node (.node (.node (.node (.node .leaf 21 ([.int .i32 0], 4) .leaf) 22 ([.slice none 0 0], 24) .leaf) 23 ([.bool false, .slice none 0 0, .slice none 0 0], 56) (.node .leaf 24 ([.bool false, .slice none 0 0, .slice none 0 0], 56) .leaf)) 25 ([.bool false, .slice none 0 0, .slice none 0 0, .bool false, .slice none 0 0, .slice none 0 0, .int .i64 0, .int .i64 0], 128) (.node (.node .leaf 26 ([.bool false, .slice none 0 0, .slice none 0 0, .bool false, .slice none 0 0, .slice none 0 0, .int .i64 0, .int .i64 0], 128) .leaf) 27 ([.slice none 0 0], 24) (.node .leaf 28 ([.bool false, .slice none 0 0, .slice none 0 0], 56) .leaf))) 29 ([.bool false, .slice none 0 0, .slice none 0 0], 56) (.node (.node (.node (.node .leaf 30 ([.nilFunc], 8) .leaf) 32 ([.nilFunc], 8) .leaf) 33 ([.nilFunc], 8) (.node .leaf 34 ([.nilFunc], 8) .leaf)) 36 ([.nilFunc], 8) (.node (.node .leaf 37 ([.nilFunc], 8) .leaf) 38 ([.nilFunc], 8) (.node .leaf 39 ([.nilFunc], 8) .leaf))))) 40 ([.nilFunc], 8) (.node (.node (.node (.node (.node (.node .leaf 41 ([.nilFunc], 8) .leaf) 42 ([.int .u64 0], 8) .leaf) 43 ([.nilFunc], 8) (.node .leaf 44 ([.bool false, .slice none 0 0, .slice none 0 0, .bool false, .slice none 0 0, .slice none 0 0], 112) .leaf)) 45 ([.bool false, .slice none 0 0, .slice none 0 0, .bool false, .slice none 0 0, .slice none 0 0], 112) (.node (.node (.node .leaf 46 ([.int .i64 0], 8) .leaf) 48 ([.nilFunc], 8) .leaf) 49 ([.nilFunc], 8) (.node .leaf 50 ([.nilFunc], 8) .leaf))) 51 ([.nilFunc], 8) (.node (.node (.node (.node .leaf 52 ([.nilFunc], 8) .leaf) 53 ([.nilFunc], 8) .leaf) 54 ([.nilFunc], 8) (.node .leaf 55 ([.nilFunc], 8) .leaf)) 56 ([.int .u32 0], 4) (.node (.node .leaf 57 ([.nilFunc], 8) .leaf) 59 ([.nilFunc], 8) (.node .leaf 60 ([.slice none 0 0], 24) .leaf)))) 62 ([.nilFunc], 8) (.node (.node (.node (.node (.node .leaf 63 ([.nilFunc], 8) .leaf) 64 ([.nilFunc], 8) .leaf) 65 ([.nilFunc], 8) (.node .leaf 67 ([.nilFunc], 8) .leaf)) 68 ([.int .u64 0], 8) (.node (.node .leaf 69 ([.nilFunc], 8) .leaf) 70 ([.nilFunc], 8) (.node .leaf 71 ([.slice none 0 0], 24) .leaf))) 72 ([.slice none 0 0, .slice none 0 0], 48) (.node (.node (.node (.node .leaf 73 ([.slice none 0 0, .slice none 0 0], 48) .leaf) 74 ([.nilFunc], 8) .leaf) 75 ([.nilFunc], 8) (.node .leaf 77 ([.nilFunc], 8) .leaf)) 78 ([.nilFunc], 8) (.node (.node .leaf 79 ([.nilFunc], 8) .leaf) 80 ([.nilFunc], 8) (.node .leaf 81 ([.nilFunc], 8) .leaf)))))) 82 ([.nilFunc], 8) (.node (.node (.node (.node (.node (.node (.node .leaf 83 ([.nilFunc], 8) .leaf) 84 ([.nilFunc], 8) .leaf) 85 ([.nilFunc], 8) (.node .leaf 86 ([.nilFunc], 8) .leaf)) 87 ([.nilFunc], 8) (.node (.node (.node .leaf 88 ([.nilFunc], 8) .leaf) 89 ([.nilFunc], 8) .leaf) 90 ([.bool false, .slice none 0 0, .slice none 0 0, .bool false, .slice none 0 0, .slice none 0 0], 112) (.node .leaf 91 ([.bool false, .slice none 0 0, .slice none 0 0, .bool false, .slice none 0 0, .slice none 0 0], 112) .leaf))) 93 ([.nilFunc], 8) (.node (.node (.node (.node .leaf 94 ([.nilFunc], 8) .leaf) 95 ([.nilFunc], 8) .leaf) 96 ([.bool false, .slice none 0 0, .slice none 0 0, .bool false, .slice none 0 0, .slice none 0 0], 112) (.node .leaf 97 ([.slice none 0 0], 24) .leaf)) 99 ([.nilFunc], 8) (.node (.node .leaf 100 ([.nilFunc], 8) .leaf) 101 ([.nilFunc], 8) (.node .leaf 102 ([.nilFunc], 8) .leaf)))) 103 ([.nilFunc], 8) (.node (.node (.node (.node (.node .leaf 105 ([.nilFunc], 8) .leaf) 106 ([.nilFunc], 8) .leaf) 108 ([.nilFunc], 8) (.node .leaf 109 ([.nilFunc], 8) .leaf)) 110 ([.nilFunc], 8) (.node (.node .leaf 112 ([.nilFunc], 8) .leaf) 113 ([.nilFunc], 8) (.node .leaf 114 ([.nilFunc], 8) .leaf))) 115 ([.nilFunc], 8) (.node (.node (.node (.node .leaf 116 ([.bool false, .slice none 0 0, .slice none 0 0], 56) .leaf) 117 ([.bool false, .slice none 0 0, .slice none 0 0], 56) .leaf) 119 ([.nilFunc], 8) (.node .leaf 120 ([.nilFunc], 8) .leaf)) 121 ([.nilFunc], 8) (.node (.node .leaf 122 ([.nilFunc], 8) .leaf) 123 ([.nilFunc], 8) (.node .leaf 124 ([.nilFunc], 8) .leaf))))) 125 ([.nilFunc], 8) (.node (.node (.node (.node (.node (.node .leaf 126 ([.nilFunc], 8) .leaf) 127 ([.nilFunc], 8) .leaf) 128 ([.nilFunc], 8) (.node .leaf 129 ([.nilFunc], 8) .leaf)) 130 ([.nilFunc], 8) (.node (.node .leaf 131 ([.nilFunc], 8) .leaf) 132 ([.nilFunc], 8) (.node .leaf 133 ([.nilFunc], 8) .leaf))) 134 ([.nilFunc], 8) (.node (.node (.node (.node .leaf 135 ([.nilFunc], 8) .leaf) 136 ([.nilFunc], 8) .leaf) 137 ([.nilFunc], 8) (.node .leaf 138 ([.nilFunc], 8) .leaf)) 139 ([.nilFunc], 8) (.node (.node .leaf 140 ([.nilFunc], 8) .leaf) 141 ([.nilFunc], 8) (.node .leaf 142 ([.nilFunc], 8) .leaf)))) 144 ([.nilFunc], 8) (.node (.node (.node (.node (.node .leaf 145 ([.nilFunc], 8) .leaf) 146 ([.int .u8 0, .int .u8 0, .int .u8 0, .int .u8 0, .int .u8 0, .int .u8 0, .int .u8 0, .int .u8 0, .int .u8 0, .int .u8 0, .int .u8 0, .int .u8 0, .int .u8 0, .int .u8 0, .int .u8 0, .int .u8 0, .int .u8 0, .int .u8 0, .int .u8 0, .int .u8 0, .int .u8 0, .int .u8 0, .int .u8 0, .int .u8 0, .int .u8 0, .int .u8 0, .int .u8 0, .int .u8 0, .int .u8 0, .int .u8 0, .int .u8 0, .int .u8 0], 32) .leaf) 147 ([.nilFunc], 8) (.node .leaf 148 ([.pointer none, .pointer none, .pointer none, .string ByteArray.empty], 40) .leaf)) 149 ([.pointer none, .pointer none, .pointer none, .string ByteArray.empty], 40) (.node (.node .leaf 150 ([], 0) .leaf) 151 ([], 0) (.node .leaf 152 ([], 0) .leaf))) 153 ([.int .u8 0], 1) (.node (.node (.node (.node .leaf 154 ([.int .u8 0], 1) .leaf) 155 ([.nilFunc], 8) .leaf) 156 ([.pointer none], 8) (.node .leaf 157 ([.int .i32 0], 4) .leaf)) 158 ([.int .i32 0], 4) (.node (.node .leaf 159 ([.int .u64 0, .int .u64 0, .int .u32 0, .int .u8 0, .int .u8 0, .int .u8 0, .int .u8 0, .nilFunc, .pointer none, .int .i32 0, .int .i32 0], 48) .leaf) 160 ([.int .u64 0, .int .u64 0, .int .u32 0, .int .u8 0, .int .u8 0, .int .u8 0, .int .u8 0, .nilFunc, .pointer none, .int .i32 0, .int .i32 0], 48) (.node .leaf 161 ([.pointer none], 8) .leaf)))))))
set_option maxRecDepth 100000 in
def fnB : BT Unit := (.node (.node (.node (.node (.node (.node (.node (.node .leaf 3 () .leaf) 4 () .leaf) 5 () (.node .leaf 6 () .leaf)) 7 () (.node (.node .leaf 8 () .leaf) 9 () (.node .leaf 10 () .leaf))) 11 () (.node (.node (.node (.node .leaf 12 () .leaf) 13 () .leaf) 14 () (.node .leaf 15 () .leaf)) 16 () (.node (.node .leaf 17 () .leaf) 18 () (.node .leaf 19 () .leaf)))) 20 () (.node (.node (.node (.node (.node .leaf 21 () .leaf) 22 () .leaf) 23 () (.node .leaf 24 () .leaf)) 25 () (.node (.node .leaf 26 () .leaf) 27 () (.node .leaf 28 () .leaf))) 29 () (.node (.node (.node .leaf 30 () .leaf) 31 () (.node .leaf 32 () .leaf)) 33 () (.node (.node .leaf 34 () .leaf) 35 () (.node .leaf 36 () .leaf))))) 37 () (.node (.node (.node (.node (.node (.node .leaf 38 () .leaf) 39 () .leaf) 40 () (.node .leaf 41 () .leaf)) 42 () (.node (.node .leaf 43 () .leaf) 44 () (.node .leaf 45 () .leaf))) 46 () (.node (.node (.node .leaf 47 () .leaf) 48 () (.node .leaf 49 () .leaf)) 50 () (.node (.node .leaf 51 () .leaf) 52 () (.node .leaf 53 () .leaf)))) 54 () (.node (.node (.node (.node (.node .leaf 55 () .leaf) 56 () .leaf) 57 () (.node .leaf 58 () .leaf)) 59 () (.node (.node .leaf 60 () .leaf) 61 () (.node .leaf 62 () .leaf))) 63 () (.node (.node (.node .leaf 64 () .leaf) 65 () (.node .leaf 66 () .leaf)) 67 () (.node (.node .leaf 68 () .leaf) 69 () (.node .leaf 70 () .leaf)))))) 71 () (.node (.node (.node (.node (.node (.node (.node .leaf 72 () .leaf) 73 () .leaf) 74 () (.node .leaf 75 () .leaf)) 76 () (.node (.node .leaf 77 () .leaf) 78 () (.node .leaf 79 () .leaf))) 80 () (.node (.node (.node (.node .leaf 81 () .leaf) 82 () .leaf) 83 () (.node .leaf 84 () .leaf)) 85 () (.node (.node .leaf 86 () .leaf) 87 () (.node .leaf 88 () .leaf)))) 89 () (.node (.node (.node (.node (.node .leaf 90 () .leaf) 91 () .leaf) 92 () (.node .leaf 93 () .leaf)) 94 () (.node (.node .leaf 95 () .leaf) 96 () (.node .leaf 97 () .leaf))) 98 () (.node (.node (.node .leaf 99 () .leaf) 100 () (.node .leaf 101 () .leaf)) 102 () (.node (.node .leaf 103 () .leaf) 104 () (.node .leaf 105 () .leaf))))) 106 () (.node (.node (.node (.node (.node (.node .leaf 107 () .leaf) 108 () .leaf) 109 () (.node .leaf 110 () .leaf)) 111 () (.node (.node .leaf 112 () .leaf) 113 () (.node .leaf 114 () .leaf))) 115 () (.node (.node (.node .leaf 116 () .leaf) 117 () (.node .leaf 118 () .leaf)) 119 () (.node (.node .leaf 120 () .leaf) 121 () (.node .leaf 122 () .leaf)))) 123 () (.node (.node (.node (.node (.node .leaf 124 () .leaf) 125 () .leaf) 126 () (.node .leaf 127 () .leaf)) 128 () (.node (.node .leaf 129 () .leaf) 130 () (.node .leaf 131 () .leaf))) 132 () (.node (.node (.node .leaf 133 () .leaf) 134 () (.node .leaf 135 () .leaf)) 136 () (.node (.node .leaf 137 () .leaf) 138 () (.node .leaf 139 () .leaf)))))))
def BT.All {α : Type} (p : Nat × α → Prop) : BT α → Prop
  | .leaf => True
  | .node l k x r => l.All p ∧ p (k, x) ∧ r.All p
theorem lf {α : Type} {p : Nat × α → Prop} : BT.All p .leaf := trivial
theorem nd {α : Type} {p : Nat × α → Prop} {l r : BT α} {k : Nat} {x : α} (a : l.All p) (b : p (k, x)) (c : r.All p) : BT.All p (.node l k x r) := ⟨a, b, c⟩
theorem BT.all_mem {α : Type} {p : Nat × α → Prop} {y : Nat × α} : ∀ {b : BT α}, b.All p → y ∈ b.toL → p y
  | .leaf, _, h => by cases h
  | .node l k x r, ⟨h1, h2, h3⟩, h => by
    rw [BT.toL] at h
    rcases List.mem_append.1 h with h | h
    · exact BT.all_mem h1 h
    · rcases List.mem_cons.1 h with rfl | h
      · exact h2
      · exact BT.all_mem h3 h
noncomputable def T : Tab := { prog := Tryz.prog, und := look undB, inf := look infB, fn := fun f => (look fnB f).isSome, room := False }
set_option maxRecDepth 100000 in
theorem undOk : undB.All fun x => Tryz.prog.underlying x.1 = some x.2 := (nd (nd (nd (nd (nd (nd (nd (nd lf Tryz.underlying1 lf) Tryz.underlying2 lf) Tryz.underlying3 (nd lf Tryz.underlying4 lf)) Tryz.underlying5 (nd (nd (nd lf Tryz.underlying6 lf) Tryz.underlying7 lf) Tryz.underlying8 (nd lf Tryz.underlying9 lf))) Tryz.underlying10 (nd (nd (nd (nd lf Tryz.underlying11 lf) Tryz.underlying12 lf) Tryz.underlying13 (nd lf Tryz.underlying14 lf)) Tryz.underlying15 (nd (nd lf Tryz.underlying16 lf) Tryz.underlying17 (nd lf Tryz.underlying18 lf)))) Tryz.underlying19 (nd (nd (nd (nd (nd lf Tryz.underlying21 lf) Tryz.underlying22 lf) Tryz.underlying23 (nd lf Tryz.underlying24 lf)) Tryz.underlying25 (nd (nd lf Tryz.underlying26 lf) Tryz.underlying27 (nd lf Tryz.underlying28 lf))) Tryz.underlying29 (nd (nd (nd (nd lf Tryz.underlying30 lf) Tryz.underlying32 lf) Tryz.underlying33 (nd lf Tryz.underlying34 lf)) Tryz.underlying36 (nd (nd lf Tryz.underlying37 lf) Tryz.underlying38 (nd lf Tryz.underlying39 lf))))) Tryz.underlying40 (nd (nd (nd (nd (nd (nd lf Tryz.underlying41 lf) Tryz.underlying42 lf) Tryz.underlying43 (nd lf Tryz.underlying44 lf)) Tryz.underlying45 (nd (nd lf Tryz.underlying46 lf) Tryz.underlying48 (nd lf Tryz.underlying49 lf))) Tryz.underlying50 (nd (nd (nd (nd lf Tryz.underlying51 lf) Tryz.underlying52 lf) Tryz.underlying53 (nd lf Tryz.underlying54 lf)) Tryz.underlying55 (nd (nd lf Tryz.underlying56 lf) Tryz.underlying57 (nd lf Tryz.underlying59 lf)))) Tryz.underlying60 (nd (nd (nd (nd (nd lf Tryz.underlying62 lf) Tryz.underlying63 lf) Tryz.underlying64 (nd lf Tryz.underlying65 lf)) Tryz.underlying67 (nd (nd lf Tryz.underlying68 lf) Tryz.underlying69 (nd lf Tryz.underlying70 lf))) Tryz.underlying71 (nd (nd (nd (nd lf Tryz.underlying72 lf) Tryz.underlying73 lf) Tryz.underlying74 (nd lf Tryz.underlying75 lf)) Tryz.underlying77 (nd (nd lf Tryz.underlying78 lf) Tryz.underlying79 (nd lf Tryz.underlying80 lf)))))) Tryz.underlying81 (nd (nd (nd (nd (nd (nd (nd lf Tryz.underlying82 lf) Tryz.underlying83 lf) Tryz.underlying84 (nd lf Tryz.underlying85 lf)) Tryz.underlying86 (nd (nd (nd lf Tryz.underlying87 lf) Tryz.underlying88 lf) Tryz.underlying89 (nd lf Tryz.underlying90 lf))) Tryz.underlying91 (nd (nd (nd (nd lf Tryz.underlying93 lf) Tryz.underlying94 lf) Tryz.underlying95 (nd lf Tryz.underlying96 lf)) Tryz.underlying97 (nd (nd lf Tryz.underlying99 lf) Tryz.underlying100 (nd lf Tryz.underlying101 lf)))) Tryz.underlying102 (nd (nd (nd (nd (nd lf Tryz.underlying103 lf) Tryz.underlying105 lf) Tryz.underlying106 (nd lf Tryz.underlying108 lf)) Tryz.underlying109 (nd (nd lf Tryz.underlying110 lf) Tryz.underlying112 (nd lf Tryz.underlying113 lf))) Tryz.underlying114 (nd (nd (nd (nd lf Tryz.underlying115 lf) Tryz.underlying116 lf) Tryz.underlying117 (nd lf Tryz.underlying119 lf)) Tryz.underlying120 (nd (nd lf Tryz.underlying121 lf) Tryz.underlying122 (nd lf Tryz.underlying123 lf))))) Tryz.underlying124 (nd (nd (nd (nd (nd (nd lf Tryz.underlying125 lf) Tryz.underlying126 lf) Tryz.underlying127 (nd lf Tryz.underlying128 lf)) Tryz.underlying129 (nd (nd lf Tryz.underlying130 lf) Tryz.underlying131 (nd lf Tryz.underlying132 lf))) Tryz.underlying133 (nd (nd (nd (nd lf Tryz.underlying134 lf) Tryz.underlying135 lf) Tryz.underlying136 (nd lf Tryz.underlying137 lf)) Tryz.underlying138 (nd (nd lf Tryz.underlying139 lf) Tryz.underlying140 (nd lf Tryz.underlying141 lf)))) Tryz.underlying142 (nd (nd (nd (nd (nd lf Tryz.underlying144 lf) Tryz.underlying145 lf) Tryz.underlying146 (nd lf Tryz.underlying147 lf)) Tryz.underlying148 (nd (nd lf Tryz.underlying149 lf) Tryz.underlying150 (nd lf Tryz.underlying151 lf))) Tryz.underlying152 (nd (nd (nd (nd lf Tryz.underlying153 lf) Tryz.underlying154 lf) Tryz.underlying155 (nd lf Tryz.underlying156 lf)) Tryz.underlying157 (nd (nd lf Tryz.underlying158 lf) Tryz.underlying159 (nd lf Tryz.underlying160 lf)))))))
set_option maxRecDepth 100000 in
theorem infOk : infB.All fun x => ∃ i v, Tryz.prog.info? x.1 = some i ∧ i.zero = some v ∧ v.cells = x.2.1.toArray ∧ i.size = x.2.1.length ∧ i.bytes = x.2.2 := (nd (nd (nd (nd (nd (nd (nd (nd lf ⟨Tryz.t1, _, by kernel_rfl, rfl, rfl, rfl, rfl⟩ lf) ⟨Tryz.t2, _, by kernel_rfl, rfl, rfl, rfl, rfl⟩ lf) ⟨Tryz.t3, _, by kernel_rfl, rfl, rfl, rfl, rfl⟩ (nd lf ⟨Tryz.t4, _, by kernel_rfl, rfl, rfl, rfl, rfl⟩ lf)) ⟨Tryz.t5, _, by kernel_rfl, rfl, rfl, rfl, rfl⟩ (nd (nd (nd lf ⟨Tryz.t6, _, by kernel_rfl, rfl, rfl, rfl, rfl⟩ lf) ⟨Tryz.t7, _, by kernel_rfl, rfl, rfl, rfl, rfl⟩ lf) ⟨Tryz.t8, _, by kernel_rfl, rfl, rfl, rfl, rfl⟩ (nd lf ⟨Tryz.t9, _, by kernel_rfl, rfl, rfl, rfl, rfl⟩ lf))) ⟨Tryz.t10, _, by kernel_rfl, rfl, rfl, rfl, rfl⟩ (nd (nd (nd (nd lf ⟨Tryz.t11, _, by kernel_rfl, rfl, rfl, rfl, rfl⟩ lf) ⟨Tryz.t12, _, by kernel_rfl, rfl, rfl, rfl, rfl⟩ lf) ⟨Tryz.t13, _, by kernel_rfl, rfl, rfl, rfl, rfl⟩ (nd lf ⟨Tryz.t14, _, by kernel_rfl, rfl, rfl, rfl, rfl⟩ lf)) ⟨Tryz.t15, _, by kernel_rfl, rfl, rfl, rfl, rfl⟩ (nd (nd lf ⟨Tryz.t16, _, by kernel_rfl, rfl, rfl, rfl, rfl⟩ lf) ⟨Tryz.t17, _, by kernel_rfl, rfl, rfl, rfl, rfl⟩ (nd lf ⟨Tryz.t18, _, by kernel_rfl, rfl, rfl, rfl, rfl⟩ lf)))) ⟨Tryz.t19, _, by kernel_rfl, rfl, rfl, rfl, rfl⟩ (nd (nd (nd (nd (nd lf ⟨Tryz.t21, _, by kernel_rfl, rfl, rfl, rfl, rfl⟩ lf) ⟨Tryz.t22, _, by kernel_rfl, rfl, rfl, rfl, rfl⟩ lf) ⟨Tryz.t23, _, by kernel_rfl, rfl, rfl, rfl, rfl⟩ (nd lf ⟨Tryz.t24, _, by kernel_rfl, rfl, rfl, rfl, rfl⟩ lf)) ⟨Tryz.t25, _, by kernel_rfl, rfl, rfl, rfl, rfl⟩ (nd (nd lf ⟨Tryz.t26, _, by kernel_rfl, rfl, rfl, rfl, rfl⟩ lf) ⟨Tryz.t27, _, by kernel_rfl, rfl, rfl, rfl, rfl⟩ (nd lf ⟨Tryz.t28, _, by kernel_rfl, rfl, rfl, rfl, rfl⟩ lf))) ⟨Tryz.t29, _, by kernel_rfl, rfl, rfl, rfl, rfl⟩ (nd (nd (nd (nd lf ⟨Tryz.t30, _, by kernel_rfl, rfl, rfl, rfl, rfl⟩ lf) ⟨Tryz.t32, _, by kernel_rfl, rfl, rfl, rfl, rfl⟩ lf) ⟨Tryz.t33, _, by kernel_rfl, rfl, rfl, rfl, rfl⟩ (nd lf ⟨Tryz.t34, _, by kernel_rfl, rfl, rfl, rfl, rfl⟩ lf)) ⟨Tryz.t36, _, by kernel_rfl, rfl, rfl, rfl, rfl⟩ (nd (nd lf ⟨Tryz.t37, _, by kernel_rfl, rfl, rfl, rfl, rfl⟩ lf) ⟨Tryz.t38, _, by kernel_rfl, rfl, rfl, rfl, rfl⟩ (nd lf ⟨Tryz.t39, _, by kernel_rfl, rfl, rfl, rfl, rfl⟩ lf))))) ⟨Tryz.t40, _, by kernel_rfl, rfl, rfl, rfl, rfl⟩ (nd (nd (nd (nd (nd (nd lf ⟨Tryz.t41, _, by kernel_rfl, rfl, rfl, rfl, rfl⟩ lf) ⟨Tryz.t42, _, by kernel_rfl, rfl, rfl, rfl, rfl⟩ lf) ⟨Tryz.t43, _, by kernel_rfl, rfl, rfl, rfl, rfl⟩ (nd lf ⟨Tryz.t44, _, by kernel_rfl, rfl, rfl, rfl, rfl⟩ lf)) ⟨Tryz.t45, _, by kernel_rfl, rfl, rfl, rfl, rfl⟩ (nd (nd (nd lf ⟨Tryz.t46, _, by kernel_rfl, rfl, rfl, rfl, rfl⟩ lf) ⟨Tryz.t48, _, by kernel_rfl, rfl, rfl, rfl, rfl⟩ lf) ⟨Tryz.t49, _, by kernel_rfl, rfl, rfl, rfl, rfl⟩ (nd lf ⟨Tryz.t50, _, by kernel_rfl, rfl, rfl, rfl, rfl⟩ lf))) ⟨Tryz.t51, _, by kernel_rfl, rfl, rfl, rfl, rfl⟩ (nd (nd (nd (nd lf ⟨Tryz.t52, _, by kernel_rfl, rfl, rfl, rfl, rfl⟩ lf) ⟨Tryz.t53, _, by kernel_rfl, rfl, rfl, rfl, rfl⟩ lf) ⟨Tryz.t54, _, by kernel_rfl, rfl, rfl, rfl, rfl⟩ (nd lf ⟨Tryz.t55, _, by kernel_rfl, rfl, rfl, rfl, rfl⟩ lf)) ⟨Tryz.t56, _, by kernel_rfl, rfl, rfl, rfl, rfl⟩ (nd (nd lf ⟨Tryz.t57, _, by kernel_rfl, rfl, rfl, rfl, rfl⟩ lf) ⟨Tryz.t59, _, by kernel_rfl, rfl, rfl, rfl, rfl⟩ (nd lf ⟨Tryz.t60, _, by kernel_rfl, rfl, rfl, rfl, rfl⟩ lf)))) ⟨Tryz.t62, _, by kernel_rfl, rfl, rfl, rfl, rfl⟩ (nd (nd (nd (nd (nd lf ⟨Tryz.t63, _, by kernel_rfl, rfl, rfl, rfl, rfl⟩ lf) ⟨Tryz.t64, _, by kernel_rfl, rfl, rfl, rfl, rfl⟩ lf) ⟨Tryz.t65, _, by kernel_rfl, rfl, rfl, rfl, rfl⟩ (nd lf ⟨Tryz.t67, _, by kernel_rfl, rfl, rfl, rfl, rfl⟩ lf)) ⟨Tryz.t68, _, by kernel_rfl, rfl, rfl, rfl, rfl⟩ (nd (nd lf ⟨Tryz.t69, _, by kernel_rfl, rfl, rfl, rfl, rfl⟩ lf) ⟨Tryz.t70, _, by kernel_rfl, rfl, rfl, rfl, rfl⟩ (nd lf ⟨Tryz.t71, _, by kernel_rfl, rfl, rfl, rfl, rfl⟩ lf))) ⟨Tryz.t72, _, by kernel_rfl, rfl, rfl, rfl, rfl⟩ (nd (nd (nd (nd lf ⟨Tryz.t73, _, by kernel_rfl, rfl, rfl, rfl, rfl⟩ lf) ⟨Tryz.t74, _, by kernel_rfl, rfl, rfl, rfl, rfl⟩ lf) ⟨Tryz.t75, _, by kernel_rfl, rfl, rfl, rfl, rfl⟩ (nd lf ⟨Tryz.t77, _, by kernel_rfl, rfl, rfl, rfl, rfl⟩ lf)) ⟨Tryz.t78, _, by kernel_rfl, rfl, rfl, rfl, rfl⟩ (nd (nd lf ⟨Tryz.t79, _, by kernel_rfl, rfl, rfl, rfl, rfl⟩ lf) ⟨Tryz.t80, _, by kernel_rfl, rfl, rfl, rfl, rfl⟩ (nd lf ⟨Tryz.t81, _, by kernel_rfl, rfl, rfl, rfl, rfl⟩ lf)))))) ⟨Tryz.t82, _, by kernel_rfl, rfl, rfl, rfl, rfl⟩ (nd (nd (nd (nd (nd (nd (nd lf ⟨Tryz.t83, _, by kernel_rfl, rfl, rfl, rfl, rfl⟩ lf) ⟨Tryz.t84, _, by kernel_rfl, rfl, rfl, rfl, rfl⟩ lf) ⟨Tryz.t85, _, by kernel_rfl, rfl, rfl, rfl, rfl⟩ (nd lf ⟨Tryz.t86, _, by kernel_rfl, rfl, rfl, rfl, rfl⟩ lf)) ⟨Tryz.t87, _, by kernel_rfl, rfl, rfl, rfl, rfl⟩ (nd (nd (nd lf ⟨Tryz.t88, _, by kernel_rfl, rfl, rfl, rfl, rfl⟩ lf) ⟨Tryz.t89, _, by kernel_rfl, rfl, rfl, rfl, rfl⟩ lf) ⟨Tryz.t90, _, by kernel_rfl, rfl, rfl, rfl, rfl⟩ (nd lf ⟨Tryz.t91, _, by kernel_rfl, rfl, rfl, rfl, rfl⟩ lf))) ⟨Tryz.t93, _, by kernel_rfl, rfl, rfl, rfl, rfl⟩ (nd (nd (nd (nd lf ⟨Tryz.t94, _, by kernel_rfl, rfl, rfl, rfl, rfl⟩ lf) ⟨Tryz.t95, _, by kernel_rfl, rfl, rfl, rfl, rfl⟩ lf) ⟨Tryz.t96, _, by kernel_rfl, rfl, rfl, rfl, rfl⟩ (nd lf ⟨Tryz.t97, _, by kernel_rfl, rfl, rfl, rfl, rfl⟩ lf)) ⟨Tryz.t99, _, by kernel_rfl, rfl, rfl, rfl, rfl⟩ (nd (nd lf ⟨Tryz.t100, _, by kernel_rfl, rfl, rfl, rfl, rfl⟩ lf) ⟨Tryz.t101, _, by kernel_rfl, rfl, rfl, rfl, rfl⟩ (nd lf ⟨Tryz.t102, _, by kernel_rfl, rfl, rfl, rfl, rfl⟩ lf)))) ⟨Tryz.t103, _, by kernel_rfl, rfl, rfl, rfl, rfl⟩ (nd (nd (nd (nd (nd lf ⟨Tryz.t105, _, by kernel_rfl, rfl, rfl, rfl, rfl⟩ lf) ⟨Tryz.t106, _, by kernel_rfl, rfl, rfl, rfl, rfl⟩ lf) ⟨Tryz.t108, _, by kernel_rfl, rfl, rfl, rfl, rfl⟩ (nd lf ⟨Tryz.t109, _, by kernel_rfl, rfl, rfl, rfl, rfl⟩ lf)) ⟨Tryz.t110, _, by kernel_rfl, rfl, rfl, rfl, rfl⟩ (nd (nd lf ⟨Tryz.t112, _, by kernel_rfl, rfl, rfl, rfl, rfl⟩ lf) ⟨Tryz.t113, _, by kernel_rfl, rfl, rfl, rfl, rfl⟩ (nd lf ⟨Tryz.t114, _, by kernel_rfl, rfl, rfl, rfl, rfl⟩ lf))) ⟨Tryz.t115, _, by kernel_rfl, rfl, rfl, rfl, rfl⟩ (nd (nd (nd (nd lf ⟨Tryz.t116, _, by kernel_rfl, rfl, rfl, rfl, rfl⟩ lf) ⟨Tryz.t117, _, by kernel_rfl, rfl, rfl, rfl, rfl⟩ lf) ⟨Tryz.t119, _, by kernel_rfl, rfl, rfl, rfl, rfl⟩ (nd lf ⟨Tryz.t120, _, by kernel_rfl, rfl, rfl, rfl, rfl⟩ lf)) ⟨Tryz.t121, _, by kernel_rfl, rfl, rfl, rfl, rfl⟩ (nd (nd lf ⟨Tryz.t122, _, by kernel_rfl, rfl, rfl, rfl, rfl⟩ lf) ⟨Tryz.t123, _, by kernel_rfl, rfl, rfl, rfl, rfl⟩ (nd lf ⟨Tryz.t124, _, by kernel_rfl, rfl, rfl, rfl, rfl⟩ lf))))) ⟨Tryz.t125, _, by kernel_rfl, rfl, rfl, rfl, rfl⟩ (nd (nd (nd (nd (nd (nd lf ⟨Tryz.t126, _, by kernel_rfl, rfl, rfl, rfl, rfl⟩ lf) ⟨Tryz.t127, _, by kernel_rfl, rfl, rfl, rfl, rfl⟩ lf) ⟨Tryz.t128, _, by kernel_rfl, rfl, rfl, rfl, rfl⟩ (nd lf ⟨Tryz.t129, _, by kernel_rfl, rfl, rfl, rfl, rfl⟩ lf)) ⟨Tryz.t130, _, by kernel_rfl, rfl, rfl, rfl, rfl⟩ (nd (nd lf ⟨Tryz.t131, _, by kernel_rfl, rfl, rfl, rfl, rfl⟩ lf) ⟨Tryz.t132, _, by kernel_rfl, rfl, rfl, rfl, rfl⟩ (nd lf ⟨Tryz.t133, _, by kernel_rfl, rfl, rfl, rfl, rfl⟩ lf))) ⟨Tryz.t134, _, by kernel_rfl, rfl, rfl, rfl, rfl⟩ (nd (nd (nd (nd lf ⟨Tryz.t135, _, by kernel_rfl, rfl, rfl, rfl, rfl⟩ lf) ⟨Tryz.t136, _, by kernel_rfl, rfl, rfl, rfl, rfl⟩ lf) ⟨Tryz.t137, _, by kernel_rfl, rfl, rfl, rfl, rfl⟩ (nd lf ⟨Tryz.t138, _, by kernel_rfl, rfl, rfl, rfl, rfl⟩ lf)) ⟨Tryz.t139, _, by kernel_rfl, rfl, rfl, rfl, rfl⟩ (nd (nd lf ⟨Tryz.t140, _, by kernel_rfl, rfl, rfl, rfl, rfl⟩ lf) ⟨Tryz.t141, _, by kernel_rfl, rfl, rfl, rfl, rfl⟩ (nd lf ⟨Tryz.t142, _, by kernel_rfl, rfl, rfl, rfl, rfl⟩ lf)))) ⟨Tryz.t144, _, by kernel_rfl, rfl, rfl, rfl, rfl⟩ (nd (nd (nd (nd (nd lf ⟨Tryz.t145, _, by kernel_rfl, rfl, rfl, rfl, rfl⟩ lf) ⟨Tryz.t146, _, by kernel_rfl, rfl, rfl, rfl, rfl⟩ lf) ⟨Tryz.t147, _, by kernel_rfl, rfl, rfl, rfl, rfl⟩ (nd lf ⟨Tryz.t148, _, by kernel_rfl, rfl, rfl, rfl, rfl⟩ lf)) ⟨Tryz.t149, _, by kernel_rfl, rfl, rfl, rfl, rfl⟩ (nd (nd lf ⟨Tryz.t150, _, by kernel_rfl, rfl, rfl, rfl, rfl⟩ lf) ⟨Tryz.t151, _, by kernel_rfl, rfl, rfl, rfl, rfl⟩ (nd lf ⟨Tryz.t152, _, by kernel_rfl, rfl, rfl, rfl, rfl⟩ lf))) ⟨Tryz.t153, _, by kernel_rfl, rfl, rfl, rfl, rfl⟩ (nd (nd (nd (nd lf ⟨Tryz.t154, _, by kernel_rfl, rfl, rfl, rfl, rfl⟩ lf) ⟨Tryz.t155, _, by kernel_rfl, rfl, rfl, rfl, rfl⟩ lf) ⟨Tryz.t156, _, by kernel_rfl, rfl, rfl, rfl, rfl⟩ (nd lf ⟨Tryz.t157, _, by kernel_rfl, rfl, rfl, rfl, rfl⟩ lf)) ⟨Tryz.t158, _, by kernel_rfl, rfl, rfl, rfl, rfl⟩ (nd (nd lf ⟨Tryz.t159, _, by kernel_rfl, rfl, rfl, rfl, rfl⟩ lf) ⟨Tryz.t160, _, by kernel_rfl, rfl, rfl, rfl, rfl⟩ (nd lf ⟨Tryz.t161, _, by kernel_rfl, rfl, rfl, rfl, rfl⟩ lf)))))))
set_option maxRecDepth 100000 in
theorem fnOk : fnB.All fun x => ∀ args w, (callFunc x.1 args).run Tryz.prog w = .ok (.enter x.1 args) w := (nd (nd (nd (nd (nd (nd (nd (nd lf Tryz.call3 lf) Tryz.call4 lf) Tryz.call5 (nd lf Tryz.call6 lf)) Tryz.call7 (nd (nd lf Tryz.call8 lf) Tryz.call9 (nd lf Tryz.call10 lf))) Tryz.call11 (nd (nd (nd (nd lf Tryz.call12 lf) Tryz.call13 lf) Tryz.call14 (nd lf Tryz.call15 lf)) Tryz.call16 (nd (nd lf Tryz.call17 lf) Tryz.call18 (nd lf Tryz.call19 lf)))) Tryz.call20 (nd (nd (nd (nd (nd lf Tryz.call21 lf) Tryz.call22 lf) Tryz.call23 (nd lf Tryz.call24 lf)) Tryz.call25 (nd (nd lf Tryz.call26 lf) Tryz.call27 (nd lf Tryz.call28 lf))) Tryz.call29 (nd (nd (nd lf Tryz.call30 lf) Tryz.call31 (nd lf Tryz.call32 lf)) Tryz.call33 (nd (nd lf Tryz.call34 lf) Tryz.call35 (nd lf Tryz.call36 lf))))) Tryz.call37 (nd (nd (nd (nd (nd (nd lf Tryz.call38 lf) Tryz.call39 lf) Tryz.call40 (nd lf Tryz.call41 lf)) Tryz.call42 (nd (nd lf Tryz.call43 lf) Tryz.call44 (nd lf Tryz.call45 lf))) Tryz.call46 (nd (nd (nd lf Tryz.call47 lf) Tryz.call48 (nd lf Tryz.call49 lf)) Tryz.call50 (nd (nd lf Tryz.call51 lf) Tryz.call52 (nd lf Tryz.call53 lf)))) Tryz.call54 (nd (nd (nd (nd (nd lf Tryz.call55 lf) Tryz.call56 lf) Tryz.call57 (nd lf Tryz.call58 lf)) Tryz.call59 (nd (nd lf Tryz.call60 lf) Tryz.call61 (nd lf Tryz.call62 lf))) Tryz.call63 (nd (nd (nd lf Tryz.call64 lf) Tryz.call65 (nd lf Tryz.call66 lf)) Tryz.call67 (nd (nd lf Tryz.call68 lf) Tryz.call69 (nd lf Tryz.call70 lf)))))) Tryz.call71 (nd (nd (nd (nd (nd (nd (nd lf Tryz.call72 lf) Tryz.call73 lf) Tryz.call74 (nd lf Tryz.call75 lf)) Tryz.call76 (nd (nd lf Tryz.call77 lf) Tryz.call78 (nd lf Tryz.call79 lf))) Tryz.call80 (nd (nd (nd (nd lf Tryz.call81 lf) Tryz.call82 lf) Tryz.call83 (nd lf Tryz.call84 lf)) Tryz.call85 (nd (nd lf Tryz.call86 lf) Tryz.call87 (nd lf Tryz.call88 lf)))) Tryz.call89 (nd (nd (nd (nd (nd lf Tryz.call90 lf) Tryz.call91 lf) Tryz.call92 (nd lf Tryz.call93 lf)) Tryz.call94 (nd (nd lf Tryz.call95 lf) Tryz.call96 (nd lf Tryz.call97 lf))) Tryz.call98 (nd (nd (nd lf Tryz.call99 lf) Tryz.call100 (nd lf Tryz.call101 lf)) Tryz.call102 (nd (nd lf Tryz.call103 lf) Tryz.call104 (nd lf Tryz.call105 lf))))) Tryz.call106 (nd (nd (nd (nd (nd (nd lf Tryz.call107 lf) Tryz.call108 lf) Tryz.call109 (nd lf Tryz.call110 lf)) Tryz.call111 (nd (nd lf Tryz.call112 lf) Tryz.call113 (nd lf Tryz.call114 lf))) Tryz.call115 (nd (nd (nd lf Tryz.call116 lf) Tryz.call117 (nd lf Tryz.call118 lf)) Tryz.call119 (nd (nd lf Tryz.call120 lf) Tryz.call121 (nd lf Tryz.call122 lf)))) Tryz.call123 (nd (nd (nd (nd (nd lf Tryz.call124 lf) Tryz.call125 lf) Tryz.call126 (nd lf Tryz.call127 lf)) Tryz.call128 (nd (nd lf Tryz.call129 lf) Tryz.call130 (nd lf Tryz.call131 lf))) Tryz.call132 (nd (nd (nd lf Tryz.call133 lf) Tryz.call134 (nd lf Tryz.call135 lf)) Tryz.call136 (nd (nd lf Tryz.call137 lf) Tryz.call138 (nd lf Tryz.call139 lf)))))))
theorem mixedOk : Tryz.prog.follows .mixedOrders = true := by kernel_rfl
set_option maxRecDepth 100000 in
theorem ok : T.Ok where
  und t d h := BT.all_mem (y := (t, d)) undOk (look_mem h)
  inf t z n h := BT.all_mem (y := (t, (z, n))) infOk (look_mem h)
  fn f h args w := by
    obtain ⟨x, hx⟩ := Option.isSome_iff_exists.1 (show (look fnB f).isSome = true from h)
    exact BT.all_mem fnOk (look_mem hx) args w
  mixed := mixedOk
abbrev F.top_TopIdentities : Nat := 3
theorem D.top_TopIdentities : T.prog.funcs[F.top_TopIdentities]? = some Tryz.f3 := Tryz.func3
abbrev F.ref01_Of : Nat := 4
theorem D.ref01_Of : T.prog.funcs[F.ref01_Of]? = some Tryz.f4 := Tryz.func4
abbrev F.top_ends : Nat := 5
theorem D.top_ends : T.prog.funcs[F.top_ends]? = some Tryz.f5 := Tryz.func5
abbrev F.ref01_Sum : Nat := 6
theorem D.ref01_Sum : T.prog.funcs[F.ref01_Sum]? = some Tryz.f6 := Tryz.func6
abbrev F.top_common : Nat := 7
theorem D.top_common : T.prog.funcs[F.top_common]? = some Tryz.f7 := Tryz.func7
abbrev F.ref01_Prod : Nat := 8
theorem D.ref01_Prod : T.prog.funcs[F.ref01_Prod]? = some Tryz.f8 := Tryz.func8
abbrev F.ref01_Div : Nat := 9
theorem D.ref01_Div : T.prog.funcs[F.ref01_Div]? = some Tryz.f9 := Tryz.func9
abbrev F.ref01_Diff : Nat := 10
theorem D.ref01_Diff : T.prog.funcs[F.ref01_Diff]? = some Tryz.f10 := Tryz.func10
abbrev F.top_span : Nat := 11
theorem D.top_span : T.prog.funcs[F.top_span]? = some Tryz.f11 := Tryz.func11
abbrev F.ref01_Int : Nat := 12
theorem D.ref01_Int : T.prog.funcs[F.ref01_Int]? = some Tryz.f12 := Tryz.func12
abbrev F.top_counts : Nat := 13
theorem D.top_counts : T.prog.funcs[F.top_counts]? = some Tryz.f13 := Tryz.func13
abbrev F.ref01_words : Nat := 14
theorem D.ref01_words : T.prog.funcs[F.ref01_words]? = some Tryz.f14 := Tryz.func14
abbrev F.ref01_NatOf : Nat := 15
theorem D.ref01_NatOf : T.prog.funcs[F.ref01_NatOf]? = some Tryz.f15 := Tryz.func15
abbrev F.ref01_Make : Nat := 16
theorem D.ref01_Make : T.prog.funcs[F.ref01_Make]? = some Tryz.f16 := Tryz.func16
abbrev F.elem_Apply : Nat := 17
theorem D.elem_Apply : T.prog.funcs[F.elem_Apply]? = some Tryz.f17 := Tryz.func17
abbrev F.ref01_Rat : Nat := 18
theorem D.ref01_Rat : T.prog.funcs[F.ref01_Rat]? = some Tryz.f18 := Tryz.func18
abbrev F.ref01_NatMul : Nat := 19
theorem D.ref01_NatMul : T.prog.funcs[F.ref01_NatMul]? = some Tryz.f19 := Tryz.func19
abbrev F.ref01_Q_den : Nat := 20
theorem D.ref01_Q_den : T.prog.funcs[F.ref01_Q_den]? = some Tryz.f20 := Tryz.func20
abbrev F.ref01_NatAdd : Nat := 21
theorem D.ref01_NatAdd : T.prog.funcs[F.ref01_NatAdd]? = some Tryz.f21 := Tryz.func21
abbrev F.ref01_NatCmp : Nat := 22
theorem D.ref01_NatCmp : T.prog.funcs[F.ref01_NatCmp]? = some Tryz.f22 := Tryz.func22
abbrev F.ref01_NatSub : Nat := 23
theorem D.ref01_NatSub : T.prog.funcs[F.ref01_NatSub]? = some Tryz.f23 := Tryz.func23
abbrev F.ref01_Cmp : Nat := 24
theorem D.ref01_Cmp : T.prog.funcs[F.ref01_Cmp]? = some Tryz.f24 := Tryz.func24
abbrev F.ref01_Opp : Nat := 25
theorem D.ref01_Opp : T.prog.funcs[F.ref01_Opp]? = some Tryz.f25 := Tryz.func25
abbrev F.ref01_Least : Nat := 26
theorem D.ref01_Least : T.prog.funcs[F.ref01_Least]? = some Tryz.f26 := Tryz.func26
abbrev F.ref01_Most : Nat := 27
theorem D.ref01_Most : T.prog.funcs[F.ref01_Most]? = some Tryz.f27 := Tryz.func27
abbrev F.elem_Exp : Nat := 28
theorem D.elem_Exp : T.prog.funcs[F.elem_Exp]? = some Tryz.f28 := Tryz.func28
abbrev F.ref01_trim : Nat := 29
theorem D.ref01_trim : T.prog.funcs[F.ref01_trim]? = some Tryz.f29 := Tryz.func29
abbrev F.ref01_NatGcd : Nat := 30
theorem D.ref01_NatGcd : T.prog.funcs[F.ref01_NatGcd]? = some Tryz.f30 := Tryz.func30
abbrev F.ref01_NatDiv : Nat := 31
theorem D.ref01_NatDiv : T.prog.funcs[F.ref01_NatDiv]? = some Tryz.f31 := Tryz.func31
abbrev F.elem_exp : Nat := 32
theorem D.elem_exp : T.prog.funcs[F.elem_exp]? = some Tryz.f32 := Tryz.func32
abbrev F.elem_log : Nat := 33
theorem D.elem_log : T.prog.funcs[F.elem_log]? = some Tryz.f33 := Tryz.func33
abbrev F.elem_sin : Nat := 34
theorem D.elem_sin : T.prog.funcs[F.elem_sin]? = some Tryz.f34 := Tryz.func34
abbrev F.elem_cos : Nat := 35
theorem D.elem_cos : T.prog.funcs[F.elem_cos]? = some Tryz.f35 := Tryz.func35
abbrev F.elem_tan : Nat := 36
theorem D.elem_tan : T.prog.funcs[F.elem_tan]? = some Tryz.f36 := Tryz.func36
abbrev F.elem_asin : Nat := 37
theorem D.elem_asin : T.prog.funcs[F.elem_asin]? = some Tryz.f37 := Tryz.func37
abbrev F.elem_acos : Nat := 38
theorem D.elem_acos : T.prog.funcs[F.elem_acos]? = some Tryz.f38 := Tryz.func38
abbrev F.elem_atan : Nat := 39
theorem D.elem_atan : T.prog.funcs[F.elem_atan]? = some Tryz.f39 := Tryz.func39
abbrev F.elem_known : Nat := 40
theorem D.elem_known : T.prog.funcs[F.elem_known]? = some Tryz.f40 := Tryz.func40
abbrev F.elem_apply : Nat := 41
theorem D.elem_apply : T.prog.funcs[F.elem_apply]? = some Tryz.f41 := Tryz.func41
abbrev F.ref01_list : Nat := 42
theorem D.ref01_list : T.prog.funcs[F.ref01_list]? = some Tryz.f42 := Tryz.func42
abbrev F.ref01_Q_whole : Nat := 43
theorem D.ref01_Q_whole : T.prog.funcs[F.ref01_Q_whole]? = some Tryz.f43 := Tryz.func43
abbrev F.ref01_Sgn : Nat := 44
theorem D.ref01_Sgn : T.prog.funcs[F.ref01_Sgn]? = some Tryz.f44 := Tryz.func44
abbrev F.ref01_small : Nat := 45
theorem D.ref01_small : T.prog.funcs[F.ref01_small]? = some Tryz.f45 := Tryz.func45
abbrev F.ref01_NatShl : Nat := 46
theorem D.ref01_NatShl : T.prog.funcs[F.ref01_NatShl]? = some Tryz.f46 := Tryz.func46
abbrev F.ref01_digit : Nat := 47
theorem D.ref01_digit : T.prog.funcs[F.ref01_digit]? = some Tryz.f47 := Tryz.func47
abbrev F.ref01_NatShr : Nat := 48
theorem D.ref01_NatShr : T.prog.funcs[F.ref01_NatShr]? = some Tryz.f48 := Tryz.func48
abbrev F.elem_scaled : Nat := 49
theorem D.elem_scaled : T.prog.funcs[F.elem_scaled]? = some Tryz.f49 := Tryz.func49
abbrev F.elem_unit : Nat := 50
theorem D.elem_unit : T.prog.funcs[F.elem_unit]? = some Tryz.f50 := Tryz.func50
abbrev F.word_Nat_Shl : Nat := 51
theorem D.word_Nat_Shl : T.prog.funcs[F.word_Nat_Shl]? = some Tryz.f51 := Tryz.func51
abbrev F.word_Nat_Mul : Nat := 52
theorem D.word_Nat_Mul : T.prog.funcs[F.word_Nat_Mul]? = some Tryz.f52 := Tryz.func52
abbrev F.word_Nat_Shr : Nat := 53
theorem D.word_Nat_Shr : T.prog.funcs[F.word_Nat_Shr]? = some Tryz.f53 := Tryz.func53
abbrev F.word_Nat_DivSmall : Nat := 54
theorem D.word_Nat_DivSmall : T.prog.funcs[F.word_Nat_DivSmall]? = some Tryz.f54 := Tryz.func54
abbrev F.word_Nat_Add : Nat := 55
theorem D.word_Nat_Add : T.prog.funcs[F.word_Nat_Add]? = some Tryz.f55 := Tryz.func55
abbrev F.elem_over : Nat := 56
theorem D.elem_over : T.prog.funcs[F.elem_over]? = some Tryz.f56 := Tryz.func56
abbrev F.elem_up : Nat := 57
theorem D.elem_up : T.prog.funcs[F.elem_up]? = some Tryz.f57 := Tryz.func57
abbrev F.word_Small : Nat := 58
theorem D.word_Small : T.prog.funcs[F.word_Small]? = some Tryz.f58 := Tryz.func58
abbrev F.elem_pair_bracket : Nat := 59
theorem D.elem_pair_bracket : T.prog.funcs[F.elem_pair_bracket]? = some Tryz.f59 := Tryz.func59
abbrev F.elem_rational : Nat := 60
theorem D.elem_rational : T.prog.funcs[F.elem_rational]? = some Tryz.f60 := Tryz.func60
abbrev F.word_Of : Nat := 61
theorem D.word_Of : T.prog.funcs[F.word_Of]? = some Tryz.f61 := Tryz.func61
abbrev F.elem_whole : Nat := 62
theorem D.elem_whole : T.prog.funcs[F.elem_whole]? = some Tryz.f62 := Tryz.func62
abbrev F.word_Nat_Bits : Nat := 63
theorem D.word_Nat_Bits : T.prog.funcs[F.word_Nat_Bits]? = some Tryz.f63 := Tryz.func63
abbrev F.word_Nat_Cmp : Nat := 64
theorem D.word_Nat_Cmp : T.prog.funcs[F.word_Nat_Cmp]? = some Tryz.f64 := Tryz.func64
abbrev F.word_Nat_Sub : Nat := 65
theorem D.word_Nat_Sub : T.prog.funcs[F.word_Nat_Sub]? = some Tryz.f65 := Tryz.func65
abbrev F.elem_logs : Nat := 66
theorem D.elem_logs : T.prog.funcs[F.elem_logs]? = some Tryz.f66 := Tryz.func66
abbrev F.elem_below : Nat := 67
theorem D.elem_below : T.prog.funcs[F.elem_below]? = some Tryz.f67 := Tryz.func67
abbrev F.elem_both : Nat := 68
theorem D.elem_both : T.prog.funcs[F.elem_both]? = some Tryz.f68 := Tryz.func68
abbrev F.elem_rounded : Nat := 69
theorem D.elem_rounded : T.prog.funcs[F.elem_rounded]? = some Tryz.f69 := Tryz.func69
abbrev F.number_Div : Nat := 70
theorem D.number_Div : T.prog.funcs[F.number_Div]? = some Tryz.f70 := Tryz.func70
abbrev F.number_Compare : Nat := 71
theorem D.number_Compare : T.prog.funcs[F.number_Compare]? = some Tryz.f71 := Tryz.func71
abbrev F.elem_arcsine : Nat := 72
theorem D.elem_arcsine : T.prog.funcs[F.elem_arcsine]? = some Tryz.f72 := Tryz.func72
abbrev F.elem_pi : Nat := 73
theorem D.elem_pi : T.prog.funcs[F.elem_pi]? = some Tryz.f73 := Tryz.func73
abbrev F.elem_pair_times : Nat := 74
theorem D.elem_pair_times : T.prog.funcs[F.elem_pair_times]? = some Tryz.f74 := Tryz.func74
abbrev F.elem_beyond : Nat := 75
theorem D.elem_beyond : T.prog.funcs[F.elem_beyond]? = some Tryz.f75 := Tryz.func75
abbrev F.elem_angle : Nat := 76
theorem D.elem_angle : T.prog.funcs[F.elem_angle]? = some Tryz.f76 := Tryz.func76
abbrev F.number_Canon : Nat := 77
theorem D.number_Canon : T.prog.funcs[F.number_Canon]? = some Tryz.f77 := Tryz.func77
abbrev F.elem_ready : Nat := 78
theorem D.elem_ready : T.prog.funcs[F.elem_ready]? = some Tryz.f78 := Tryz.func78
abbrev F.elem_exact : Nat := 79
theorem D.elem_exact : T.prog.funcs[F.elem_exact]? = some Tryz.f79 := Tryz.func79
abbrev F.ref01_less : Nat := 80
theorem D.ref01_less : T.prog.funcs[F.ref01_less]? = some Tryz.f80 := Tryz.func80
abbrev F.word_Nat_Zero : Nat := 81
theorem D.word_Nat_Zero : T.prog.funcs[F.word_Nat_Zero]? = some Tryz.f81 := Tryz.func81
abbrev F.word_Nat_Div : Nat := 82
theorem D.word_Nat_Div : T.prog.funcs[F.word_Nat_Div]? = some Tryz.f82 := Tryz.func82
abbrev F.word_Nat_Low : Nat := 83
theorem D.word_Nat_Low : T.prog.funcs[F.word_Nat_Low]? = some Tryz.f83 := Tryz.func83
abbrev F.math_bits_Len32 : Nat := 84
theorem D.math_bits_Len32 : T.prog.funcs[F.math_bits_Len32]? = some Tryz.f84 := Tryz.func84
abbrev F.elem_pair_square : Nat := 85
theorem D.elem_pair_square : T.prog.funcs[F.elem_pair_square]? = some Tryz.f85 := Tryz.func85
abbrev F.number_Sub : Nat := 86
theorem D.number_Sub : T.prog.funcs[F.number_Sub]? = some Tryz.f86 := Tryz.func86
abbrev F.elem_rest : Nat := 87
theorem D.elem_rest : T.prog.funcs[F.elem_rest]? = some Tryz.f87 := Tryz.func87
abbrev F.elem_sine : Nat := 88
theorem D.elem_sine : T.prog.funcs[F.elem_sine]? = some Tryz.f88 := Tryz.func88
abbrev F.elem_cosine : Nat := 89
theorem D.elem_cosine : T.prog.funcs[F.elem_cosine]? = some Tryz.f89 := Tryz.func89
abbrev F.elem_span_minus : Nat := 90
theorem D.elem_span_minus : T.prog.funcs[F.elem_span_minus]? = some Tryz.f90 := Tryz.func90
abbrev F.number_Down : Nat := 91
theorem D.number_Down : T.prog.funcs[F.number_Down]? = some Tryz.f91 := Tryz.func91
abbrev F.number_Up : Nat := 92
theorem D.number_Up : T.prog.funcs[F.number_Up]? = some Tryz.f92 := Tryz.func92
abbrev F.word_Read : Nat := 93
theorem D.word_Read : T.prog.funcs[F.word_Read]? = some Tryz.f93 := Tryz.func93
abbrev F.word_Frac_Mul : Nat := 94
theorem D.word_Frac_Mul : T.prog.funcs[F.word_Frac_Mul]? = some Tryz.f94 := Tryz.func94
abbrev F.word_Frac_Inverse : Nat := 95
theorem D.word_Frac_Inverse : T.prog.funcs[F.word_Frac_Inverse]? = some Tryz.f95 := Tryz.func95
abbrev F.word_Frac_Give : Nat := 96
theorem D.word_Frac_Give : T.prog.funcs[F.word_Frac_Give]? = some Tryz.f96 := Tryz.func96
abbrev F.word_Frac_Cmp : Nat := 97
theorem D.word_Frac_Cmp : T.prog.funcs[F.word_Frac_Cmp]? = some Tryz.f97 := Tryz.func97
abbrev F.number_Mul : Nat := 98
theorem D.number_Mul : T.prog.funcs[F.number_Mul]? = some Tryz.f98 := Tryz.func98
abbrev F.number_FromInt : Nat := 99
theorem D.number_FromInt : T.prog.funcs[F.number_FromInt]? = some Tryz.f99 := Tryz.func99
abbrev F.number_RootUp : Nat := 100
theorem D.number_RootUp : T.prog.funcs[F.number_RootUp]? = some Tryz.f100 := Tryz.func100
abbrev F.number_RootDown : Nat := 101
theorem D.number_RootDown : T.prog.funcs[F.number_RootDown]? = some Tryz.f101 := Tryz.func101
abbrev F.elem_arcsine_1 : Nat := 102
theorem D.elem_arcsine_1 : T.prog.funcs[F.elem_arcsine_1]? = some Tryz.f102 := Tryz.func102
abbrev F.number_Add : Nat := 103
theorem D.number_Add : T.prog.funcs[F.number_Add]? = some Tryz.f103 := Tryz.func103
abbrev F.elem_pi_1 : Nat := 104
theorem D.elem_pi_1 : T.prog.funcs[F.elem_pi_1]? = some Tryz.f104 := Tryz.func104
abbrev F.elem_arctan : Nat := 105
theorem D.elem_arctan : T.prog.funcs[F.elem_arctan]? = some Tryz.f105 := Tryz.func105
abbrev F.elem_halve : Nat := 106
theorem D.elem_halve : T.prog.funcs[F.elem_halve]? = some Tryz.f106 := Tryz.func106
abbrev F.number_one : Nat := 107
theorem D.number_one : T.prog.funcs[F.number_one]? = some Tryz.f107 := Tryz.func107
abbrev F.number_Canon_1 : Nat := 108
theorem D.number_Canon_1 : T.prog.funcs[F.number_Canon_1]? = some Tryz.f108 := Tryz.func108
abbrev F.elem_defined : Nat := 109
theorem D.elem_defined : T.prog.funcs[F.elem_defined]? = some Tryz.f109 := Tryz.func109
abbrev F.elem_tooLong : Nat := 110
theorem D.elem_tooLong : T.prog.funcs[F.elem_tooLong]? = some Tryz.f110 := Tryz.func110
abbrev F.elem_isOne : Nat := 111
theorem D.elem_isOne : T.prog.funcs[F.elem_isOne]? = some Tryz.f111 := Tryz.func111
abbrev F.math_bits_LeadingZeros32 : Nat := 112
theorem D.math_bits_LeadingZeros32 : T.prog.funcs[F.math_bits_LeadingZeros32]? = some Tryz.f112 := Tryz.func112
abbrev F.word_digit : Nat := 113
theorem D.word_digit : T.prog.funcs[F.word_digit]? = some Tryz.f113 := Tryz.func113
abbrev F.word_Nat_Twos : Nat := 114
theorem D.word_Nat_Twos : T.prog.funcs[F.word_Nat_Twos]? = some Tryz.f114 := Tryz.func114
abbrev F.number_two : Nat := 115
theorem D.number_two : T.prog.funcs[F.number_two]? = some Tryz.f115 := Tryz.func115
abbrev F.number_Sub_1 : Nat := 116
theorem D.number_Sub_1 : T.prog.funcs[F.number_Sub_1]? = some Tryz.f116 := Tryz.func116
abbrev F.word_Frac_Add : Nat := 117
theorem D.word_Frac_Add : T.prog.funcs[F.word_Frac_Add]? = some Tryz.f117 := Tryz.func117
abbrev F.word_Frac_Opposite : Nat := 118
theorem D.word_Frac_Opposite : T.prog.funcs[F.word_Frac_Opposite]? = some Tryz.f118 := Tryz.func118
abbrev F.number_Floor : Nat := 119
theorem D.number_Floor : T.prog.funcs[F.number_Floor]? = some Tryz.f119 := Tryz.func119
abbrev F.elem_rest_1 : Nat := 120
theorem D.elem_rest_1 : T.prog.funcs[F.elem_rest_1]? = some Tryz.f120 := Tryz.func120
abbrev F.elem_modulo : Nat := 121
theorem D.elem_modulo : T.prog.funcs[F.elem_modulo]? = some Tryz.f121 := Tryz.func121
abbrev F.elem_sine_1 : Nat := 122
theorem D.elem_sine_1 : T.prog.funcs[F.elem_sine_1]? = some Tryz.f122 := Tryz.func122
abbrev F.elem_natural : Nat := 123
theorem D.elem_natural : T.prog.funcs[F.elem_natural]? = some Tryz.f123 := Tryz.func123
abbrev F.elem_waves : Nat := 124
theorem D.elem_waves : T.prog.funcs[F.elem_waves]? = some Tryz.f124 := Tryz.func124
abbrev F.number_Neg : Nat := 125
theorem D.number_Neg : T.prog.funcs[F.number_Neg]? = some Tryz.f125 := Tryz.func125
abbrev F.number_round : Nat := 126
theorem D.number_round : T.prog.funcs[F.number_round]? = some Tryz.f126 := Tryz.func126
abbrev F.word_Reduce : Nat := 127
theorem D.word_Reduce : T.prog.funcs[F.word_Reduce]? = some Tryz.f127 := Tryz.func127
abbrev F.word_Frac_Fits : Nat := 128
theorem D.word_Frac_Fits : T.prog.funcs[F.word_Frac_Fits]? = some Tryz.f128 := Tryz.func128
abbrev F.slices_Clone_of__of_uint32_uint32 : Nat := 129
theorem D.slices_Clone_of__of_uint32_uint32 : T.prog.funcs[F.slices_Clone_of__of_uint32_uint32]? = some Tryz.f129 := Tryz.func129
abbrev F.word_Nat_One : Nat := 130
theorem D.word_Nat_One : T.prog.funcs[F.word_Nat_One]? = some Tryz.f130 := Tryz.func130
abbrev F.word_Frac_Sign : Nat := 131
theorem D.word_Frac_Sign : T.prog.funcs[F.word_Frac_Sign]? = some Tryz.f131 := Tryz.func131
abbrev F.word_Int : Nat := 132
theorem D.word_Int : T.prog.funcs[F.word_Int]? = some Tryz.f132 := Tryz.func132
abbrev F.number_root : Nat := 133
theorem D.number_root : T.prog.funcs[F.number_root]? = some Tryz.f133 := Tryz.func133
abbrev F.word_Nat_Root : Nat := 134
theorem D.word_Nat_Root : T.prog.funcs[F.word_Nat_Root]? = some Tryz.f134 := Tryz.func134
abbrev F.math_bits_TrailingZeros32 : Nat := 135
theorem D.math_bits_TrailingZeros32 : T.prog.funcs[F.math_bits_TrailingZeros32]? = some Tryz.f135 := Tryz.func135
abbrev F.number_Floor_1 : Nat := 136
theorem D.number_Floor_1 : T.prog.funcs[F.number_Floor_1]? = some Tryz.f136 := Tryz.func136
abbrev F.word_Frac_Grid : Nat := 137
theorem D.word_Frac_Grid : T.prog.funcs[F.word_Frac_Grid]? = some Tryz.f137 := Tryz.func137
abbrev F.word_Nat_GCD : Nat := 138
theorem D.word_Nat_GCD : T.prog.funcs[F.word_Nat_GCD]? = some Tryz.f138 := Tryz.func138
abbrev F.word_Nat_Pow : Nat := 139
theorem D.word_Nat_Pow : T.prog.funcs[F.word_Nat_Pow]? = some Tryz.f139 := Tryz.func139
abbrev Ty.int64 : Nat := 2
abbrev Ty.int : Nat := 3
abbrev Ty.bool : Nat := 4
abbrev Ty.uint8 : Nat := 5
abbrev Ty.int32 : Nat := 21
abbrev Ty.api_Rat : Nat := 24
abbrev Ty.top_Twice : Nat := 26
abbrev Ty.ref01_Nat : Nat := 27
abbrev Ty.ref01_Q : Nat := 29
abbrev Ty.uint64 : Nat := 42
abbrev Ty.api_Bracket : Nat := 45
abbrev Ty.api_Errno : Nat := 46
abbrev Ty.uint32 : Nat := 56
abbrev Ty.word_Nat : Nat := 71
abbrev Ty.elem_pair : Nat := 73
abbrev Ty.elem_span : Nat := 91
abbrev Ty.word_Frac : Nat := 117
abbrev Gl.math_bits_deBruijn32tab : Nat := 0
end Go.Proofs.YtdemgbmndijkkaaGreatDoor