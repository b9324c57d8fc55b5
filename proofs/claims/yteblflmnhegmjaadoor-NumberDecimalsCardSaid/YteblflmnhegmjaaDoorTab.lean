/- The tables of this seat's translation as the engine wants them: the types' shapes and zero values, the functions' numbers by name. Printed by program; every row is checked by Lean. -/
import Derived.Test.YteblflmnhegmjaaDoorProg
import Derived.Test.YteblflmnhegmjaaDoorVcRule
import Derived.KernelRfl
set_option linter.unusedVariables false
set_option linter.unusedSimpArgs false
namespace Go.Proofs.YteblflmnhegmjaaDoor
open Go Go.Vc
def look {α : Type} : List (Nat × α) → Nat → Option α
  | [], _ => none
  | (a, x) :: l, t => match Nat.beq a t with
    | true => some x
    | false => look l t
theorem look_mem {α : Type} : ∀ {l : List (Nat × α)} {t : Nat} {x : α}, look l t = some x → (t, x) ∈ l
  | [], _, _, h => by simp [look] at h
  | (a, y) :: l, t, x, h => by
    simp only [look] at h
    split at h
    · rename_i e
      obtain rfl := Nat.eq_of_beq_eq_true e
      simp at h; subst h; simp
    · exact List.mem_cons_of_mem _ (look_mem h)
theorem any_mem {l : List Nat} {f : Nat} (h : l.any (Nat.beq f) = true) : f ∈ l := by
  obtain ⟨x, hx, he⟩ := List.any_eq_true.1 h
  obtain rfl := Nat.eq_of_beq_eq_true he
  exact hx
def undL : List (Nat × TypeDesc) := [(1, .func #[] #[] false),
  (2, .int .i64),
  (3, .int .i64),
  (4, .bool),
  (5, .int .u8),
  (6, .int .u8),
  (7, .struct #[{ name := "x", type := 2, offset := 0, embedded := false, tag := "", pkgPath := "runtime", byteOffset := 0 }, { name := "y", type := 3, offset := 1, embedded := false, tag := "", pkgPath := "runtime", byteOffset := 8 }, { name := "signed", type := 4, offset := 2, embedded := false, tag := "", pkgPath := "runtime", byteOffset := 16 }, { name := "code", type := 6, offset := 3, embedded := false, tag := "", pkgPath := "runtime", byteOffset := 17 }]),
  (8, .struct #[{ name := "x", type := 2, offset := 0, embedded := false, tag := "", pkgPath := "runtime", byteOffset := 0 }, { name := "y", type := 3, offset := 1, embedded := false, tag := "", pkgPath := "runtime", byteOffset := 8 }, { name := "signed", type := 4, offset := 2, embedded := false, tag := "", pkgPath := "runtime", byteOffset := 16 }, { name := "code", type := 6, offset := 3, embedded := false, tag := "", pkgPath := "runtime", byteOffset := 17 }]),
  (9, .string),
  (10, .string),
  (11, .string),
  (12, .int .u64),
  (13, .struct #[{ name := "msg", type := 9, offset := 0, embedded := false, tag := "", pkgPath := "runtime", byteOffset := 0 }, { name := "addr", type := 12, offset := 1, embedded := false, tag := "", pkgPath := "runtime", byteOffset := 16 }]),
  (14, .struct #[{ name := "msg", type := 9, offset := 0, embedded := false, tag := "", pkgPath := "runtime", byteOffset := 0 }, { name := "addr", type := 12, offset := 1, embedded := false, tag := "", pkgPath := "runtime", byteOffset := 16 }]),
  (15, .pointer 136),
  (16, .pointer 139),
  (17, .pointer 147),
  (18, .struct #[{ name := "typ", type := 17, offset := 0, embedded := false, tag := "", pkgPath := "internal/runtime/maps", byteOffset := 0 }]),
  (19, .struct #[{ name := "typ", type := 17, offset := 0, embedded := false, tag := "", pkgPath := "internal/runtime/maps", byteOffset := 0 }]),
  (21, .int .i32),
  (22, .slice 78),
  (23, .struct #[{ name := "Neg", type := 4, offset := 0, embedded := false, tag := "", pkgPath := "", byteOffset := 0 }, { name := "Num", type := 22, offset := 1, embedded := false, tag := "", pkgPath := "", byteOffset := 8 }, { name := "Den", type := 22, offset := 2, embedded := false, tag := "", pkgPath := "", byteOffset := 32 }]),
  (24, .struct #[{ name := "Neg", type := 4, offset := 0, embedded := false, tag := "", pkgPath := "", byteOffset := 0 }, { name := "Num", type := 22, offset := 1, embedded := false, tag := "", pkgPath := "", byteOffset := 8 }, { name := "Den", type := 22, offset := 2, embedded := false, tag := "", pkgPath := "", byteOffset := 32 }]),
  (25, .int .i64),
  (27, .func #[24] #[3, 25] false),
  (29, .func #[24] #[24, 25] false),
  (30, .func #[24] #[4] false),
  (31, .func #[] #[4] false),
  (32, .slice 78),
  (33, .struct #[{ name := "Neg", type := 4, offset := 0, embedded := false, tag := "", pkgPath := "", byteOffset := 0 }, { name := "N", type := 32, offset := 1, embedded := false, tag := "", pkgPath := "", byteOffset := 8 }, { name := "D", type := 32, offset := 2, embedded := false, tag := "", pkgPath := "", byteOffset := 32 }]),
  (34, .struct #[{ name := "Neg", type := 4, offset := 0, embedded := false, tag := "", pkgPath := "", byteOffset := 0 }, { name := "N", type := 32, offset := 1, embedded := false, tag := "", pkgPath := "", byteOffset := 8 }, { name := "D", type := 32, offset := 2, embedded := false, tag := "", pkgPath := "", byteOffset := 32 }]),
  (35, .func #[24] #[34] false),
  (36, .func #[34] #[3] false),
  (37, .func #[24, 25, 24, 25] #[4] false),
  (38, .func #[34] #[24] false),
  (39, .func #[34] #[34] false),
  (41, .func #[24, 3] #[24, 4, 25] false),
  (42, .func #[24, 3] #[4] false),
  (43, .func #[24, 24] #[3, 25] false),
  (44, .func #[24, 24] #[24, 25] false),
  (45, .func #[24, 24, 24] #[4] false),
  (46, .func #[24, 3, 3] #[24, 25] false),
  (47, .func #[24, 3, 3, 4] #[24, 25] false),
  (48, .func #[24, 3, 3] #[4] false),
  (49, .func #[24, 3] #[24, 25] false),
  (50, .func #[34, 34] #[3] false),
  (51, .func #[34, 3] #[34] false),
  (52, .func #[3] #[34] false),
  (53, .func #[24, 5] #[4] false),
  (54, .int .u16),
  (55, .func #[24, 54] #[24] false),
  (57, .func #[24] #[9, 25] false),
  (58, .func #[24, 24, 54] #[4] false),
  (59, .func #[24, 24] #[4] false),
  (60, .func #[32, 32] #[3] false),
  (61, .func #[9] #[24, 25] false),
  (62, .func #[24, 9] #[4] false),
  (63, .func #[9] #[4] false),
  (64, .func #[3] #[24] false),
  (65, .func #[9, 9] #[4] false),
  (66, .func #[24, 5, 5] #[4] false),
  (67, .slice 78),
  (68, .struct #[{ name := "Neg", type := 4, offset := 0, embedded := false, tag := "", pkgPath := "", byteOffset := 0 }, { name := "Num", type := 67, offset := 1, embedded := false, tag := "", pkgPath := "", byteOffset := 8 }, { name := "Den", type := 67, offset := 2, embedded := false, tag := "", pkgPath := "", byteOffset := 32 }]),
  (69, .struct #[{ name := "Neg", type := 4, offset := 0, embedded := false, tag := "", pkgPath := "", byteOffset := 0 }, { name := "Num", type := 67, offset := 1, embedded := false, tag := "", pkgPath := "", byteOffset := 8 }, { name := "Den", type := 67, offset := 2, embedded := false, tag := "", pkgPath := "", byteOffset := 32 }]),
  (71, .func #[24] #[69, 4] false),
  (72, .func #[] #[3] false),
  (73, .func #[24, 74] #[24, 25] false),
  (74, .func #[69] #[69] false),
  (75, .func #[] #[69] false),
  (76, .func #[22] #[32] false),
  (77, .func #[34] #[4] false),
  (78, .int .u32),
  (79, .func #[80] #[32] false),
  (80, .int .u64),
  (81, .func #[4, 32, 32] #[34] false),
  (82, .func #[32] #[22] false),
  (84, .func #[3] #[67, 4] false),
  (85, .func #[] #[24, 25] false),
  (87, .func #[34, 3] #[34, 4] false),
  (88, .func #[69] #[3] false),
  (89, .func #[24, 24, 90] #[24, 25] false),
  (90, .func #[69, 69] #[69] false),
  (91, .func #[34] #[24, 25] false),
  (92, .func #[34, 3, 3] #[34] false),
  (93, .func #[24, 3, 4] #[24, 25] false),
  (94, .func #[34, 34] #[34] false),
  (95, .func #[32, 3] #[32] false),
  (96, .func #[] #[32] false),
  (97, .slice 22),
  (98, .int .u64),
  (99, .func #[67] #[9] false),
  (100, .func #[125] #[4] true),
  (102, .func #[9] #[9, 9] false),
  (103, .func #[4, 67, 67] #[69] false),
  (104, .func #[9] #[67] false),
  (105, .func #[80] #[67] false),
  (106, .func #[3] #[67] false),
  (107, .func #[32, 32] #[32] false),
  (108, .func #[3] #[69] false),
  (109, .func #[22] #[67] false),
  (110, .func #[32] #[32] false),
  (112, .func #[32, 32] #[32, 32] false),
  (114, .func #[67] #[67, 67] false),
  (116, .func #[67] #[67] false),
  (117, .func #[78] #[67, 78] false),
  (118, .func #[67] #[3] false),
  (119, .func #[22] #[22] false),
  (120, .func #[3, 4] #[69] false),
  (121, .slice 5),
  (122, .func #[121] #[] false),
  (123, .func #[78] #[3] false),
  (124, .slice 69),
  (125, .slice 24),
  (126, .func #[32, 32, 32, 32] #[32, 32] false),
  (128, .func #[32, 78] #[32, 78] false),
  (129, .func #[32, 32] #[78] false),
  (130, .func #[22, 67] #[78] false),
  (131, .func #[32] #[3] false),
  (132, .func #[32, 32, 80] #[4] false),
  (133, .array 32 5),
  (134, .func #[] #[9] false),
  (135, .struct #[{ name := "_interface", type := 17, offset := 0, embedded := false, tag := "", pkgPath := "runtime", byteOffset := 0 }, { name := "concrete", type := 17, offset := 1, embedded := false, tag := "", pkgPath := "runtime", byteOffset := 8 }, { name := "asserted", type := 17, offset := 2, embedded := false, tag := "", pkgPath := "runtime", byteOffset := 16 }, { name := "missingMethod", type := 9, offset := 3, embedded := false, tag := "", pkgPath := "runtime", byteOffset := 24 }]),
  (136, .struct #[{ name := "_interface", type := 17, offset := 0, embedded := false, tag := "", pkgPath := "runtime", byteOffset := 0 }, { name := "concrete", type := 17, offset := 1, embedded := false, tag := "", pkgPath := "runtime", byteOffset := 8 }, { name := "asserted", type := 17, offset := 2, embedded := false, tag := "", pkgPath := "runtime", byteOffset := 16 }, { name := "missingMethod", type := 9, offset := 3, embedded := false, tag := "", pkgPath := "runtime", byteOffset := 24 }]),
  (137, .array 0 16),
  (138, .struct #[{ name := "_", type := 137, offset := 0, embedded := false, tag := "", pkgPath := "runtime", byteOffset := 0 }]),
  (139, .struct #[{ name := "_", type := 137, offset := 0, embedded := false, tag := "", pkgPath := "runtime", byteOffset := 0 }]),
  (140, .int .u8),
  (141, .int .u8),
  (142, .func #[148, 148] #[4] false),
  (143, .pointer 5),
  (144, .int .i32),
  (145, .int .i32),
  (146, .struct #[{ name := "Size_", type := 12, offset := 0, embedded := false, tag := "", pkgPath := "", byteOffset := 0 }, { name := "PtrBytes", type := 12, offset := 1, embedded := false, tag := "", pkgPath := "", byteOffset := 8 }, { name := "Hash", type := 78, offset := 2, embedded := false, tag := "", pkgPath := "", byteOffset := 16 }, { name := "TFlag", type := 140, offset := 3, embedded := false, tag := "", pkgPath := "", byteOffset := 20 }, { name := "Align_", type := 5, offset := 4, embedded := false, tag := "", pkgPath := "", byteOffset := 21 }, { name := "FieldAlign_", type := 5, offset := 5, embedded := false, tag := "", pkgPath := "", byteOffset := 22 }, { name := "Kind_", type := 141, offset := 6, embedded := false, tag := "", pkgPath := "", byteOffset := 23 }, { name := "Equal", type := 142, offset := 7, embedded := false, tag := "", pkgPath := "", byteOffset := 24 }, { name := "GCData", type := 143, offset := 8, embedded := false, tag := "", pkgPath := "", byteOffset := 32 }, { name := "Str", type := 144, offset := 9, embedded := false, tag := "", pkgPath := "", byteOffset := 40 }, { name := "PtrToThis", type := 145, offset := 10, embedded := false, tag := "", pkgPath := "", byteOffset := 44 }]),
  (147, .struct #[{ name := "Size_", type := 12, offset := 0, embedded := false, tag := "", pkgPath := "", byteOffset := 0 }, { name := "PtrBytes", type := 12, offset := 1, embedded := false, tag := "", pkgPath := "", byteOffset := 8 }, { name := "Hash", type := 78, offset := 2, embedded := false, tag := "", pkgPath := "", byteOffset := 16 }, { name := "TFlag", type := 140, offset := 3, embedded := false, tag := "", pkgPath := "", byteOffset := 20 }, { name := "Align_", type := 5, offset := 4, embedded := false, tag := "", pkgPath := "", byteOffset := 21 }, { name := "FieldAlign_", type := 5, offset := 5, embedded := false, tag := "", pkgPath := "", byteOffset := 22 }, { name := "Kind_", type := 141, offset := 6, embedded := false, tag := "", pkgPath := "", byteOffset := 23 }, { name := "Equal", type := 142, offset := 7, embedded := false, tag := "", pkgPath := "", byteOffset := 24 }, { name := "GCData", type := 143, offset := 8, embedded := false, tag := "", pkgPath := "", byteOffset := 32 }, { name := "Str", type := 144, offset := 9, embedded := false, tag := "", pkgPath := "", byteOffset := 40 }, { name := "PtrToThis", type := 145, offset := 10, embedded := false, tag := "", pkgPath := "", byteOffset := 44 }])]
def infL : List (Nat × (List Value × Nat)) := [(1, ([.nilFunc], 8)),
  (2, ([.int .i64 0], 8)),
  (3, ([.int .i64 0], 8)),
  (4, ([.bool false], 1)),
  (5, ([.int .u8 0], 1)),
  (6, ([.int .u8 0], 1)),
  (7, ([.int .i64 0, .int .i64 0, .bool false, .int .u8 0], 24)),
  (8, ([.int .i64 0, .int .i64 0, .bool false, .int .u8 0], 24)),
  (9, ([.string ByteArray.empty], 16)),
  (10, ([.string ByteArray.empty], 16)),
  (11, ([.string ByteArray.empty], 16)),
  (12, ([.int .u64 0], 8)),
  (13, ([.string ByteArray.empty, .int .u64 0], 24)),
  (14, ([.string ByteArray.empty, .int .u64 0], 24)),
  (15, ([.pointer none], 8)),
  (16, ([.pointer none], 8)),
  (17, ([.pointer none], 8)),
  (18, ([.pointer none], 8)),
  (19, ([.pointer none], 8)),
  (21, ([.int .i32 0], 4)),
  (22, ([.slice none 0 0], 24)),
  (23, ([.bool false, .slice none 0 0, .slice none 0 0], 56)),
  (24, ([.bool false, .slice none 0 0, .slice none 0 0], 56)),
  (25, ([.int .i64 0], 8)),
  (27, ([.nilFunc], 8)),
  (29, ([.nilFunc], 8)),
  (30, ([.nilFunc], 8)),
  (31, ([.nilFunc], 8)),
  (32, ([.slice none 0 0], 24)),
  (33, ([.bool false, .slice none 0 0, .slice none 0 0], 56)),
  (34, ([.bool false, .slice none 0 0, .slice none 0 0], 56)),
  (35, ([.nilFunc], 8)),
  (36, ([.nilFunc], 8)),
  (37, ([.nilFunc], 8)),
  (38, ([.nilFunc], 8)),
  (39, ([.nilFunc], 8)),
  (41, ([.nilFunc], 8)),
  (42, ([.nilFunc], 8)),
  (43, ([.nilFunc], 8)),
  (44, ([.nilFunc], 8)),
  (45, ([.nilFunc], 8)),
  (46, ([.nilFunc], 8)),
  (47, ([.nilFunc], 8)),
  (48, ([.nilFunc], 8)),
  (49, ([.nilFunc], 8)),
  (50, ([.nilFunc], 8)),
  (51, ([.nilFunc], 8)),
  (52, ([.nilFunc], 8)),
  (53, ([.nilFunc], 8)),
  (54, ([.int .u16 0], 2)),
  (55, ([.nilFunc], 8)),
  (57, ([.nilFunc], 8)),
  (58, ([.nilFunc], 8)),
  (59, ([.nilFunc], 8)),
  (60, ([.nilFunc], 8)),
  (61, ([.nilFunc], 8)),
  (62, ([.nilFunc], 8)),
  (63, ([.nilFunc], 8)),
  (64, ([.nilFunc], 8)),
  (65, ([.nilFunc], 8)),
  (66, ([.nilFunc], 8)),
  (67, ([.slice none 0 0], 24)),
  (68, ([.bool false, .slice none 0 0, .slice none 0 0], 56)),
  (69, ([.bool false, .slice none 0 0, .slice none 0 0], 56)),
  (71, ([.nilFunc], 8)),
  (72, ([.nilFunc], 8)),
  (73, ([.nilFunc], 8)),
  (74, ([.nilFunc], 8)),
  (75, ([.nilFunc], 8)),
  (76, ([.nilFunc], 8)),
  (77, ([.nilFunc], 8)),
  (78, ([.int .u32 0], 4)),
  (79, ([.nilFunc], 8)),
  (80, ([.int .u64 0], 8)),
  (81, ([.nilFunc], 8)),
  (82, ([.nilFunc], 8)),
  (84, ([.nilFunc], 8)),
  (85, ([.nilFunc], 8)),
  (87, ([.nilFunc], 8)),
  (88, ([.nilFunc], 8)),
  (89, ([.nilFunc], 8)),
  (90, ([.nilFunc], 8)),
  (91, ([.nilFunc], 8)),
  (92, ([.nilFunc], 8)),
  (93, ([.nilFunc], 8)),
  (94, ([.nilFunc], 8)),
  (95, ([.nilFunc], 8)),
  (96, ([.nilFunc], 8)),
  (97, ([.slice none 0 0], 24)),
  (98, ([.int .u64 0], 8)),
  (99, ([.nilFunc], 8)),
  (100, ([.nilFunc], 8)),
  (102, ([.nilFunc], 8)),
  (103, ([.nilFunc], 8)),
  (104, ([.nilFunc], 8)),
  (105, ([.nilFunc], 8)),
  (106, ([.nilFunc], 8)),
  (107, ([.nilFunc], 8)),
  (108, ([.nilFunc], 8)),
  (109, ([.nilFunc], 8)),
  (110, ([.nilFunc], 8)),
  (112, ([.nilFunc], 8)),
  (114, ([.nilFunc], 8)),
  (116, ([.nilFunc], 8)),
  (117, ([.nilFunc], 8)),
  (118, ([.nilFunc], 8)),
  (119, ([.nilFunc], 8)),
  (120, ([.nilFunc], 8)),
  (121, ([.slice none 0 0], 24)),
  (122, ([.nilFunc], 8)),
  (123, ([.nilFunc], 8)),
  (124, ([.slice none 0 0], 24)),
  (125, ([.slice none 0 0], 24)),
  (126, ([.nilFunc], 8)),
  (128, ([.nilFunc], 8)),
  (129, ([.nilFunc], 8)),
  (130, ([.nilFunc], 8)),
  (131, ([.nilFunc], 8)),
  (132, ([.nilFunc], 8)),
  (133, ([.int .u8 0, .int .u8 0, .int .u8 0, .int .u8 0, .int .u8 0, .int .u8 0, .int .u8 0, .int .u8 0, .int .u8 0, .int .u8 0, .int .u8 0, .int .u8 0, .int .u8 0, .int .u8 0, .int .u8 0, .int .u8 0, .int .u8 0, .int .u8 0, .int .u8 0, .int .u8 0, .int .u8 0, .int .u8 0, .int .u8 0, .int .u8 0, .int .u8 0, .int .u8 0, .int .u8 0, .int .u8 0, .int .u8 0, .int .u8 0, .int .u8 0, .int .u8 0], 32)),
  (134, ([.nilFunc], 8)),
  (135, ([.pointer none, .pointer none, .pointer none, .string ByteArray.empty], 40)),
  (136, ([.pointer none, .pointer none, .pointer none, .string ByteArray.empty], 40)),
  (137, ([], 0)),
  (138, ([], 0)),
  (139, ([], 0)),
  (140, ([.int .u8 0], 1)),
  (141, ([.int .u8 0], 1)),
  (142, ([.nilFunc], 8)),
  (143, ([.pointer none], 8)),
  (144, ([.int .i32 0], 4)),
  (145, ([.int .i32 0], 4)),
  (146, ([.int .u64 0, .int .u64 0, .int .u32 0, .int .u8 0, .int .u8 0, .int .u8 0, .int .u8 0, .nilFunc, .pointer none, .int .i32 0, .int .i32 0], 48)),
  (147, ([.int .u64 0, .int .u64 0, .int .u32 0, .int .u8 0, .int .u8 0, .int .u8 0, .int .u8 0, .nilFunc, .pointer none, .int .i32 0, .int .i32 0], 48)),
  (148, ([.pointer none], 8))]
def fnL : List Nat := [3, 4, 5, 6, 7, 8, 9, 10, 11, 12, 13, 14, 15, 16, 17, 18, 19, 20, 21, 22, 23, 24, 25, 26, 27, 28, 29, 30, 31, 32, 33, 34, 35, 36, 37, 38, 39, 40, 41, 42, 43, 44, 45, 46, 47, 48, 49, 50, 51, 52, 53, 54, 55, 56, 57, 58, 59, 60, 61, 62, 63, 64, 65, 66, 67, 68, 69, 70, 71, 72, 73, 74, 75, 76, 77, 78, 79, 80, 81, 82, 83, 84, 85, 86, 87, 88, 89, 90, 91, 92, 93, 94, 95, 96, 97, 98, 99, 100, 101, 102, 103, 104, 105, 106, 107, 108, 109, 110, 111, 112, 113, 114, 115, 116, 117, 118, 119, 120, 121, 122, 123, 124, 125, 126, 127, 128, 129, 130, 131, 132, 133]
noncomputable def T : Tab := { prog := Tryd.prog, und := look undL, inf := look infL, fn := fun f => fnL.any (Nat.beq f), room := False }
set_option maxRecDepth 100000 in
theorem undOk : ∀ x ∈ undL, Tryd.prog.underlying x.1 = some x.2 := by
  unfold undL
  simp only [List.forall_mem_cons]
  exact ⟨Tryd.underlying1, Tryd.underlying2, Tryd.underlying3, Tryd.underlying4, Tryd.underlying5, Tryd.underlying6, Tryd.underlying7, Tryd.underlying8, Tryd.underlying9, Tryd.underlying10, Tryd.underlying11, Tryd.underlying12, Tryd.underlying13, Tryd.underlying14, Tryd.underlying15, Tryd.underlying16, Tryd.underlying17, Tryd.underlying18, Tryd.underlying19, Tryd.underlying21, Tryd.underlying22, Tryd.underlying23, Tryd.underlying24, Tryd.underlying25, Tryd.underlying27, Tryd.underlying29, Tryd.underlying30, Tryd.underlying31, Tryd.underlying32, Tryd.underlying33, Tryd.underlying34, Tryd.underlying35, Tryd.underlying36, Tryd.underlying37, Tryd.underlying38, Tryd.underlying39, Tryd.underlying41, Tryd.underlying42, Tryd.underlying43, Tryd.underlying44, Tryd.underlying45, Tryd.underlying46, Tryd.underlying47, Tryd.underlying48, Tryd.underlying49, Tryd.underlying50, Tryd.underlying51, Tryd.underlying52, Tryd.underlying53, Tryd.underlying54, Tryd.underlying55, Tryd.underlying57, Tryd.underlying58, Tryd.underlying59, Tryd.underlying60, Tryd.underlying61, Tryd.underlying62, Tryd.underlying63, Tryd.underlying64, Tryd.underlying65, Tryd.underlying66, Tryd.underlying67, Tryd.underlying68, Tryd.underlying69, Tryd.underlying71, Tryd.underlying72, Tryd.underlying73, Tryd.underlying74, Tryd.underlying75, Tryd.underlying76, Tryd.underlying77, Tryd.underlying78, Tryd.underlying79, Tryd.underlying80, Tryd.underlying81, Tryd.underlying82, Tryd.underlying84, Tryd.underlying85, Tryd.underlying87, Tryd.underlying88, Tryd.underlying89, Tryd.underlying90, Tryd.underlying91, Tryd.underlying92, Tryd.underlying93, Tryd.underlying94, Tryd.underlying95, Tryd.underlying96, Tryd.underlying97, Tryd.underlying98, Tryd.underlying99, Tryd.underlying100, Tryd.underlying102, Tryd.underlying103, Tryd.underlying104, Tryd.underlying105, Tryd.underlying106, Tryd.underlying107, Tryd.underlying108, Tryd.underlying109, Tryd.underlying110, Tryd.underlying112, Tryd.underlying114, Tryd.underlying116, Tryd.underlying117, Tryd.underlying118, Tryd.underlying119, Tryd.underlying120, Tryd.underlying121, Tryd.underlying122, Tryd.underlying123, Tryd.underlying124, Tryd.underlying125, Tryd.underlying126, Tryd.underlying128, Tryd.underlying129, Tryd.underlying130, Tryd.underlying131, Tryd.underlying132, Tryd.underlying133, Tryd.underlying134, Tryd.underlying135, Tryd.underlying136, Tryd.underlying137, Tryd.underlying138, Tryd.underlying139, Tryd.underlying140, Tryd.underlying141, Tryd.underlying142, Tryd.underlying143, Tryd.underlying144, Tryd.underlying145, Tryd.underlying146, Tryd.underlying147, fun _ h => by cases h⟩
set_option maxRecDepth 100000 in
theorem infOk : ∀ x ∈ infL, ∃ i v, Tryd.prog.info? x.1 = some i ∧ i.zero = some v ∧ v.cells = x.2.1.toArray ∧ i.size = x.2.1.length ∧ i.bytes = x.2.2 := by
  unfold infL
  simp only [List.forall_mem_cons]
  exact ⟨⟨Tryd.t1, _, by kernel_rfl, rfl, rfl, rfl, rfl⟩,
    ⟨Tryd.t2, _, by kernel_rfl, rfl, rfl, rfl, rfl⟩,
    ⟨Tryd.t3, _, by kernel_rfl, rfl, rfl, rfl, rfl⟩,
    ⟨Tryd.t4, _, by kernel_rfl, rfl, rfl, rfl, rfl⟩,
    ⟨Tryd.t5, _, by kernel_rfl, rfl, rfl, rfl, rfl⟩,
    ⟨Tryd.t6, _, by kernel_rfl, rfl, rfl, rfl, rfl⟩,
    ⟨Tryd.t7, _, by kernel_rfl, rfl, rfl, rfl, rfl⟩,
    ⟨Tryd.t8, _, by kernel_rfl, rfl, rfl, rfl, rfl⟩,
    ⟨Tryd.t9, _, by kernel_rfl, rfl, rfl, rfl, rfl⟩,
    ⟨Tryd.t10, _, by kernel_rfl, rfl, rfl, rfl, rfl⟩,
    ⟨Tryd.t11, _, by kernel_rfl, rfl, rfl, rfl, rfl⟩,
    ⟨Tryd.t12, _, by kernel_rfl, rfl, rfl, rfl, rfl⟩,
    ⟨Tryd.t13, _, by kernel_rfl, rfl, rfl, rfl, rfl⟩,
    ⟨Tryd.t14, _, by kernel_rfl, rfl, rfl, rfl, rfl⟩,
    ⟨Tryd.t15, _, by kernel_rfl, rfl, rfl, rfl, rfl⟩,
    ⟨Tryd.t16, _, by kernel_rfl, rfl, rfl, rfl, rfl⟩,
    ⟨Tryd.t17, _, by kernel_rfl, rfl, rfl, rfl, rfl⟩,
    ⟨Tryd.t18, _, by kernel_rfl, rfl, rfl, rfl, rfl⟩,
    ⟨Tryd.t19, _, by kernel_rfl, rfl, rfl, rfl, rfl⟩,
    ⟨Tryd.t21, _, by kernel_rfl, rfl, rfl, rfl, rfl⟩,
    ⟨Tryd.t22, _, by kernel_rfl, rfl, rfl, rfl, rfl⟩,
    ⟨Tryd.t23, _, by kernel_rfl, rfl, rfl, rfl, rfl⟩,
    ⟨Tryd.t24, _, by kernel_rfl, rfl, rfl, rfl, rfl⟩,
    ⟨Tryd.t25, _, by kernel_rfl, rfl, rfl, rfl, rfl⟩,
    ⟨Tryd.t27, _, by kernel_rfl, rfl, rfl, rfl, rfl⟩,
    ⟨Tryd.t29, _, by kernel_rfl, rfl, rfl, rfl, rfl⟩,
    ⟨Tryd.t30, _, by kernel_rfl, rfl, rfl, rfl, rfl⟩,
    ⟨Tryd.t31, _, by kernel_rfl, rfl, rfl, rfl, rfl⟩,
    ⟨Tryd.t32, _, by kernel_rfl, rfl, rfl, rfl, rfl⟩,
    ⟨Tryd.t33, _, by kernel_rfl, rfl, rfl, rfl, rfl⟩,
    ⟨Tryd.t34, _, by kernel_rfl, rfl, rfl, rfl, rfl⟩,
    ⟨Tryd.t35, _, by kernel_rfl, rfl, rfl, rfl, rfl⟩,
    ⟨Tryd.t36, _, by kernel_rfl, rfl, rfl, rfl, rfl⟩,
    ⟨Tryd.t37, _, by kernel_rfl, rfl, rfl, rfl, rfl⟩,
    ⟨Tryd.t38, _, by kernel_rfl, rfl, rfl, rfl, rfl⟩,
    ⟨Tryd.t39, _, by kernel_rfl, rfl, rfl, rfl, rfl⟩,
    ⟨Tryd.t41, _, by kernel_rfl, rfl, rfl, rfl, rfl⟩,
    ⟨Tryd.t42, _, by kernel_rfl, rfl, rfl, rfl, rfl⟩,
    ⟨Tryd.t43, _, by kernel_rfl, rfl, rfl, rfl, rfl⟩,
    ⟨Tryd.t44, _, by kernel_rfl, rfl, rfl, rfl, rfl⟩,
    ⟨Tryd.t45, _, by kernel_rfl, rfl, rfl, rfl, rfl⟩,
    ⟨Tryd.t46, _, by kernel_rfl, rfl, rfl, rfl, rfl⟩,
    ⟨Tryd.t47, _, by kernel_rfl, rfl, rfl, rfl, rfl⟩,
    ⟨Tryd.t48, _, by kernel_rfl, rfl, rfl, rfl, rfl⟩,
    ⟨Tryd.t49, _, by kernel_rfl, rfl, rfl, rfl, rfl⟩,
    ⟨Tryd.t50, _, by kernel_rfl, rfl, rfl, rfl, rfl⟩,
    ⟨Tryd.t51, _, by kernel_rfl, rfl, rfl, rfl, rfl⟩,
    ⟨Tryd.t52, _, by kernel_rfl, rfl, rfl, rfl, rfl⟩,
    ⟨Tryd.t53, _, by kernel_rfl, rfl, rfl, rfl, rfl⟩,
    ⟨Tryd.t54, _, by kernel_rfl, rfl, rfl, rfl, rfl⟩,
    ⟨Tryd.t55, _, by kernel_rfl, rfl, rfl, rfl, rfl⟩,
    ⟨Tryd.t57, _, by kernel_rfl, rfl, rfl, rfl, rfl⟩,
    ⟨Tryd.t58, _, by kernel_rfl, rfl, rfl, rfl, rfl⟩,
    ⟨Tryd.t59, _, by kernel_rfl, rfl, rfl, rfl, rfl⟩,
    ⟨Tryd.t60, _, by kernel_rfl, rfl, rfl, rfl, rfl⟩,
    ⟨Tryd.t61, _, by kernel_rfl, rfl, rfl, rfl, rfl⟩,
    ⟨Tryd.t62, _, by kernel_rfl, rfl, rfl, rfl, rfl⟩,
    ⟨Tryd.t63, _, by kernel_rfl, rfl, rfl, rfl, rfl⟩,
    ⟨Tryd.t64, _, by kernel_rfl, rfl, rfl, rfl, rfl⟩,
    ⟨Tryd.t65, _, by kernel_rfl, rfl, rfl, rfl, rfl⟩,
    ⟨Tryd.t66, _, by kernel_rfl, rfl, rfl, rfl, rfl⟩,
    ⟨Tryd.t67, _, by kernel_rfl, rfl, rfl, rfl, rfl⟩,
    ⟨Tryd.t68, _, by kernel_rfl, rfl, rfl, rfl, rfl⟩,
    ⟨Tryd.t69, _, by kernel_rfl, rfl, rfl, rfl, rfl⟩,
    ⟨Tryd.t71, _, by kernel_rfl, rfl, rfl, rfl, rfl⟩,
    ⟨Tryd.t72, _, by kernel_rfl, rfl, rfl, rfl, rfl⟩,
    ⟨Tryd.t73, _, by kernel_rfl, rfl, rfl, rfl, rfl⟩,
    ⟨Tryd.t74, _, by kernel_rfl, rfl, rfl, rfl, rfl⟩,
    ⟨Tryd.t75, _, by kernel_rfl, rfl, rfl, rfl, rfl⟩,
    ⟨Tryd.t76, _, by kernel_rfl, rfl, rfl, rfl, rfl⟩,
    ⟨Tryd.t77, _, by kernel_rfl, rfl, rfl, rfl, rfl⟩,
    ⟨Tryd.t78, _, by kernel_rfl, rfl, rfl, rfl, rfl⟩,
    ⟨Tryd.t79, _, by kernel_rfl, rfl, rfl, rfl, rfl⟩,
    ⟨Tryd.t80, _, by kernel_rfl, rfl, rfl, rfl, rfl⟩,
    ⟨Tryd.t81, _, by kernel_rfl, rfl, rfl, rfl, rfl⟩,
    ⟨Tryd.t82, _, by kernel_rfl, rfl, rfl, rfl, rfl⟩,
    ⟨Tryd.t84, _, by kernel_rfl, rfl, rfl, rfl, rfl⟩,
    ⟨Tryd.t85, _, by kernel_rfl, rfl, rfl, rfl, rfl⟩,
    ⟨Tryd.t87, _, by kernel_rfl, rfl, rfl, rfl, rfl⟩,
    ⟨Tryd.t88, _, by kernel_rfl, rfl, rfl, rfl, rfl⟩,
    ⟨Tryd.t89, _, by kernel_rfl, rfl, rfl, rfl, rfl⟩,
    ⟨Tryd.t90, _, by kernel_rfl, rfl, rfl, rfl, rfl⟩,
    ⟨Tryd.t91, _, by kernel_rfl, rfl, rfl, rfl, rfl⟩,
    ⟨Tryd.t92, _, by kernel_rfl, rfl, rfl, rfl, rfl⟩,
    ⟨Tryd.t93, _, by kernel_rfl, rfl, rfl, rfl, rfl⟩,
    ⟨Tryd.t94, _, by kernel_rfl, rfl, rfl, rfl, rfl⟩,
    ⟨Tryd.t95, _, by kernel_rfl, rfl, rfl, rfl, rfl⟩,
    ⟨Tryd.t96, _, by kernel_rfl, rfl, rfl, rfl, rfl⟩,
    ⟨Tryd.t97, _, by kernel_rfl, rfl, rfl, rfl, rfl⟩,
    ⟨Tryd.t98, _, by kernel_rfl, rfl, rfl, rfl, rfl⟩,
    ⟨Tryd.t99, _, by kernel_rfl, rfl, rfl, rfl, rfl⟩,
    ⟨Tryd.t100, _, by kernel_rfl, rfl, rfl, rfl, rfl⟩,
    ⟨Tryd.t102, _, by kernel_rfl, rfl, rfl, rfl, rfl⟩,
    ⟨Tryd.t103, _, by kernel_rfl, rfl, rfl, rfl, rfl⟩,
    ⟨Tryd.t104, _, by kernel_rfl, rfl, rfl, rfl, rfl⟩,
    ⟨Tryd.t105, _, by kernel_rfl, rfl, rfl, rfl, rfl⟩,
    ⟨Tryd.t106, _, by kernel_rfl, rfl, rfl, rfl, rfl⟩,
    ⟨Tryd.t107, _, by kernel_rfl, rfl, rfl, rfl, rfl⟩,
    ⟨Tryd.t108, _, by kernel_rfl, rfl, rfl, rfl, rfl⟩,
    ⟨Tryd.t109, _, by kernel_rfl, rfl, rfl, rfl, rfl⟩,
    ⟨Tryd.t110, _, by kernel_rfl, rfl, rfl, rfl, rfl⟩,
    ⟨Tryd.t112, _, by kernel_rfl, rfl, rfl, rfl, rfl⟩,
    ⟨Tryd.t114, _, by kernel_rfl, rfl, rfl, rfl, rfl⟩,
    ⟨Tryd.t116, _, by kernel_rfl, rfl, rfl, rfl, rfl⟩,
    ⟨Tryd.t117, _, by kernel_rfl, rfl, rfl, rfl, rfl⟩,
    ⟨Tryd.t118, _, by kernel_rfl, rfl, rfl, rfl, rfl⟩,
    ⟨Tryd.t119, _, by kernel_rfl, rfl, rfl, rfl, rfl⟩,
    ⟨Tryd.t120, _, by kernel_rfl, rfl, rfl, rfl, rfl⟩,
    ⟨Tryd.t121, _, by kernel_rfl, rfl, rfl, rfl, rfl⟩,
    ⟨Tryd.t122, _, by kernel_rfl, rfl, rfl, rfl, rfl⟩,
    ⟨Tryd.t123, _, by kernel_rfl, rfl, rfl, rfl, rfl⟩,
    ⟨Tryd.t124, _, by kernel_rfl, rfl, rfl, rfl, rfl⟩,
    ⟨Tryd.t125, _, by kernel_rfl, rfl, rfl, rfl, rfl⟩,
    ⟨Tryd.t126, _, by kernel_rfl, rfl, rfl, rfl, rfl⟩,
    ⟨Tryd.t128, _, by kernel_rfl, rfl, rfl, rfl, rfl⟩,
    ⟨Tryd.t129, _, by kernel_rfl, rfl, rfl, rfl, rfl⟩,
    ⟨Tryd.t130, _, by kernel_rfl, rfl, rfl, rfl, rfl⟩,
    ⟨Tryd.t131, _, by kernel_rfl, rfl, rfl, rfl, rfl⟩,
    ⟨Tryd.t132, _, by kernel_rfl, rfl, rfl, rfl, rfl⟩,
    ⟨Tryd.t133, _, by kernel_rfl, rfl, rfl, rfl, rfl⟩,
    ⟨Tryd.t134, _, by kernel_rfl, rfl, rfl, rfl, rfl⟩,
    ⟨Tryd.t135, _, by kernel_rfl, rfl, rfl, rfl, rfl⟩,
    ⟨Tryd.t136, _, by kernel_rfl, rfl, rfl, rfl, rfl⟩,
    ⟨Tryd.t137, _, by kernel_rfl, rfl, rfl, rfl, rfl⟩,
    ⟨Tryd.t138, _, by kernel_rfl, rfl, rfl, rfl, rfl⟩,
    ⟨Tryd.t139, _, by kernel_rfl, rfl, rfl, rfl, rfl⟩,
    ⟨Tryd.t140, _, by kernel_rfl, rfl, rfl, rfl, rfl⟩,
    ⟨Tryd.t141, _, by kernel_rfl, rfl, rfl, rfl, rfl⟩,
    ⟨Tryd.t142, _, by kernel_rfl, rfl, rfl, rfl, rfl⟩,
    ⟨Tryd.t143, _, by kernel_rfl, rfl, rfl, rfl, rfl⟩,
    ⟨Tryd.t144, _, by kernel_rfl, rfl, rfl, rfl, rfl⟩,
    ⟨Tryd.t145, _, by kernel_rfl, rfl, rfl, rfl, rfl⟩,
    ⟨Tryd.t146, _, by kernel_rfl, rfl, rfl, rfl, rfl⟩,
    ⟨Tryd.t147, _, by kernel_rfl, rfl, rfl, rfl, rfl⟩,
    ⟨Tryd.t148, _, by kernel_rfl, rfl, rfl, rfl, rfl⟩, fun _ h => by cases h⟩
set_option maxRecDepth 100000 in
theorem fnOk : ∀ f ∈ fnL, ∀ args w, (callFunc f args).run Tryd.prog w = .ok (.enter f args) w := by
  unfold fnL
  simp only [List.forall_mem_cons]
  exact ⟨Tryd.call3, Tryd.call4, Tryd.call5, Tryd.call6, Tryd.call7, Tryd.call8, Tryd.call9, Tryd.call10, Tryd.call11, Tryd.call12, Tryd.call13, Tryd.call14, Tryd.call15, Tryd.call16, Tryd.call17, Tryd.call18, Tryd.call19, Tryd.call20, Tryd.call21, Tryd.call22, Tryd.call23, Tryd.call24, Tryd.call25, Tryd.call26, Tryd.call27, Tryd.call28, Tryd.call29, Tryd.call30, Tryd.call31, Tryd.call32, Tryd.call33, Tryd.call34, Tryd.call35, Tryd.call36, Tryd.call37, Tryd.call38, Tryd.call39, Tryd.call40, Tryd.call41, Tryd.call42, Tryd.call43, Tryd.call44, Tryd.call45, Tryd.call46, Tryd.call47, Tryd.call48, Tryd.call49, Tryd.call50, Tryd.call51, Tryd.call52, Tryd.call53, Tryd.call54, Tryd.call55, Tryd.call56, Tryd.call57, Tryd.call58, Tryd.call59, Tryd.call60, Tryd.call61, Tryd.call62, Tryd.call63, Tryd.call64, Tryd.call65, Tryd.call66, Tryd.call67, Tryd.call68, Tryd.call69, Tryd.call70, Tryd.call71, Tryd.call72, Tryd.call73, Tryd.call74, Tryd.call75, Tryd.call76, Tryd.call77, Tryd.call78, Tryd.call79, Tryd.call80, Tryd.call81, Tryd.call82, Tryd.call83, Tryd.call84, Tryd.call85, Tryd.call86, Tryd.call87, Tryd.call88, Tryd.call89, Tryd.call90, Tryd.call91, Tryd.call92, Tryd.call93, Tryd.call94, Tryd.call95, Tryd.call96, Tryd.call97, Tryd.call98, Tryd.call99, Tryd.call100, Tryd.call101, Tryd.call102, Tryd.call103, Tryd.call104, Tryd.call105, Tryd.call106, Tryd.call107, Tryd.call108, Tryd.call109, Tryd.call110, Tryd.call111, Tryd.call112, Tryd.call113, Tryd.call114, Tryd.call115, Tryd.call116, Tryd.call117, Tryd.call118, Tryd.call119, Tryd.call120, Tryd.call121, Tryd.call122, Tryd.call123, Tryd.call124, Tryd.call125, Tryd.call126, Tryd.call127, Tryd.call128, Tryd.call129, Tryd.call130, Tryd.call131, Tryd.call132, Tryd.call133, fun _ h => by cases h⟩
theorem mixedOk : Tryd.prog.follows .mixedOrders = true := by kernel_rfl
set_option maxRecDepth 100000 in
theorem ok : T.Ok where
  und t d h := undOk _ (look_mem h)
  inf t z n h := infOk _ (look_mem h)
  fn f h args w := fnOk f (any_mem h) args w
  mixed := mixedOk
abbrev F.law01_NumberSigns : Nat := 3
theorem D.law01_NumberSigns : T.prog.funcs[F.law01_NumberSigns]? = some Tryd.f3 := Tryd.func3
abbrev F.law01_NumberRoots : Nat := 4
theorem D.law01_NumberRoots : T.prog.funcs[F.law01_NumberRoots]? = some Tryd.f4 := Tryd.func4
abbrev F.law01_NumberOrder : Nat := 5
theorem D.law01_NumberOrder : T.prog.funcs[F.law01_NumberOrder]? = some Tryd.f5 := Tryd.func5
abbrev F.law01_NumberGridRoots : Nat := 6
theorem D.law01_NumberGridRoots : T.prog.funcs[F.law01_NumberGridRoots]? = some Tryd.f6 := Tryd.func6
abbrev F.law01_NumberSteps : Nat := 7
theorem D.law01_NumberSteps : T.prog.funcs[F.law01_NumberSteps]? = some Tryd.f7 := Tryd.func7
abbrev F.law01_NumberDenotes : Nat := 8
theorem D.law01_NumberDenotes : T.prog.funcs[F.law01_NumberDenotes]? = some Tryd.f8 := Tryd.func8
abbrev F.law01_NumberSimplest : Nat := 9
theorem D.law01_NumberSimplest : T.prog.funcs[F.law01_NumberSimplest]? = some Tryd.f9 := Tryd.func9
abbrev F.law01_NumberBetween : Nat := 10
theorem D.law01_NumberBetween : T.prog.funcs[F.law01_NumberBetween]? = some Tryd.f10 := Tryd.func10
abbrev F.law01_NumberTexts : Nat := 11
theorem D.law01_NumberTexts : T.prog.funcs[F.law01_NumberTexts]? = some Tryd.f11 := Tryd.func11
abbrev F.law01_NumberDecimals : Nat := 12
theorem D.law01_NumberDecimals : T.prog.funcs[F.law01_NumberDecimals]? = some Tryd.f12 := Tryd.func12
abbrev F.law01_NumberPowers : Nat := 13
theorem D.law01_NumberPowers : T.prog.funcs[F.law01_NumberPowers]? = some Tryd.f13 := Tryd.func13
abbrev F.number_Sign : Nat := 14
theorem D.number_Sign : T.prog.funcs[F.number_Sign]? = some Tryd.f14 := Tryd.func14
abbrev F.number_Neg : Nat := 15
theorem D.number_Neg : T.prog.funcs[F.number_Neg]? = some Tryd.f15 := Tryd.func15
abbrev F.number_Abs : Nat := 16
theorem D.number_Abs : T.prog.funcs[F.number_Abs]? = some Tryd.f16 := Tryd.func16
abbrev F.ref01_Large : Nat := 17
theorem D.ref01_Large : T.prog.funcs[F.ref01_Large]? = some Tryd.f17 := Tryd.func17
abbrev F.law01_None : Nat := 18
theorem D.law01_None : T.prog.funcs[F.law01_None]? = some Tryd.f18 := Tryd.func18
abbrev F.law01_awake : Nat := 19
theorem D.law01_awake : T.prog.funcs[F.law01_awake]? = some Tryd.f19 := Tryd.func19
abbrev F.ref01_Of : Nat := 20
theorem D.ref01_Of : T.prog.funcs[F.ref01_Of]? = some Tryd.f20 := Tryd.func20
abbrev F.ref01_Sgn : Nat := 21
theorem D.ref01_Sgn : T.prog.funcs[F.ref01_Sgn]? = some Tryd.f21 := Tryd.func21
abbrev F.law01_Is : Nat := 22
theorem D.law01_Is : T.prog.funcs[F.law01_Is]? = some Tryd.f22 := Tryd.func22
abbrev F.ref01_Rat : Nat := 23
theorem D.ref01_Rat : T.prog.funcs[F.ref01_Rat]? = some Tryd.f23 := Tryd.func23
abbrev F.ref01_Opp : Nat := 24
theorem D.ref01_Opp : T.prog.funcs[F.ref01_Opp]? = some Tryd.f24 := Tryd.func24
abbrev F.ref01_Mag : Nat := 25
theorem D.ref01_Mag : T.prog.funcs[F.ref01_Mag]? = some Tryd.f25 := Tryd.func25
abbrev F.number_Root : Nat := 26
theorem D.number_Root : T.prog.funcs[F.number_Root]? = some Tryd.f26 := Tryd.func26
abbrev F.ref01_Root : Nat := 27
theorem D.ref01_Root : T.prog.funcs[F.ref01_Root]? = some Tryd.f27 := Tryd.func27
abbrev F.number_Compare : Nat := 28
theorem D.number_Compare : T.prog.funcs[F.number_Compare]? = some Tryd.f28 := Tryd.func28
abbrev F.number_Sub : Nat := 29
theorem D.number_Sub : T.prog.funcs[F.number_Sub]? = some Tryd.f29 := Tryd.func29
abbrev F.number_Add : Nat := 30
theorem D.number_Add : T.prog.funcs[F.number_Add]? = some Tryd.f30 := Tryd.func30
abbrev F.number_RootDown : Nat := 31
theorem D.number_RootDown : T.prog.funcs[F.number_RootDown]? = some Tryd.f31 := Tryd.func31
abbrev F.number_RootUp : Nat := 32
theorem D.number_RootUp : T.prog.funcs[F.number_RootUp]? = some Tryd.f32 := Tryd.func32
abbrev F.ref01_GridRoot : Nat := 33
theorem D.ref01_GridRoot : T.prog.funcs[F.ref01_GridRoot]? = some Tryd.f33 := Tryd.func33
abbrev F.number_Down : Nat := 34
theorem D.number_Down : T.prog.funcs[F.number_Down]? = some Tryd.f34 := Tryd.func34
abbrev F.number_Up : Nat := 35
theorem D.number_Up : T.prog.funcs[F.number_Up]? = some Tryd.f35 := Tryd.func35
abbrev F.ref01_Cmp : Nat := 36
theorem D.ref01_Cmp : T.prog.funcs[F.ref01_Cmp]? = some Tryd.f36 := Tryd.func36
abbrev F.ref01_Scaled : Nat := 37
theorem D.ref01_Scaled : T.prog.funcs[F.ref01_Scaled]? = some Tryd.f37 := Tryd.func37
abbrev F.ref01_Int : Nat := 38
theorem D.ref01_Int : T.prog.funcs[F.ref01_Int]? = some Tryd.f38 := Tryd.func38
abbrev F.ref01_Zero : Nat := 39
theorem D.ref01_Zero : T.prog.funcs[F.ref01_Zero]? = some Tryd.f39 := Tryd.func39
abbrev F.law01_scaled : Nat := 40
theorem D.law01_scaled : T.prog.funcs[F.law01_scaled]? = some Tryd.f40 := Tryd.func40
abbrev F.number_Mul : Nat := 41
theorem D.number_Mul : T.prog.funcs[F.number_Mul]? = some Tryd.f41 := Tryd.func41
abbrev F.number_Format : Nat := 42
theorem D.number_Format : T.prog.funcs[F.number_Format]? = some Tryd.f42 := Tryd.func42
abbrev F.number_Bits : Nat := 43
theorem D.number_Bits : T.prog.funcs[F.number_Bits]? = some Tryd.f43 := Tryd.func43
abbrev F.number_Simplest : Nat := 44
theorem D.number_Simplest : T.prog.funcs[F.number_Simplest]? = some Tryd.f44 := Tryd.func44
abbrev F.ref01_Simplest : Nat := 45
theorem D.ref01_Simplest : T.prog.funcs[F.ref01_Simplest]? = some Tryd.f45 := Tryd.func45
abbrev F.ref01_NatCmp : Nat := 46
theorem D.ref01_NatCmp : T.prog.funcs[F.ref01_NatCmp]? = some Tryd.f46 := Tryd.func46
abbrev F.number_Parse : Nat := 47
theorem D.number_Parse : T.prog.funcs[F.number_Parse]? = some Tryd.f47 := Tryd.func47
abbrev F.ref01_Canonical : Nat := 48
theorem D.ref01_Canonical : T.prog.funcs[F.ref01_Canonical]? = some Tryd.f48 := Tryd.func48
abbrev F.ref01_Equal : Nat := 49
theorem D.ref01_Equal : T.prog.funcs[F.ref01_Equal]? = some Tryd.f49 := Tryd.func49
abbrev F.law01_decimal : Nat := 50
theorem D.law01_decimal : T.prog.funcs[F.law01_decimal]? = some Tryd.f50 := Tryd.func50
abbrev F.number_Pow : Nat := 51
theorem D.number_Pow : T.prog.funcs[F.number_Pow]? = some Tryd.f51 := Tryd.func51
abbrev F.number_FromInt : Nat := 52
theorem D.number_FromInt : T.prog.funcs[F.number_FromInt]? = some Tryd.f52 := Tryd.func52
abbrev F.number_Div : Nat := 53
theorem D.number_Div : T.prog.funcs[F.number_Div]? = some Tryd.f53 := Tryd.func53
abbrev F.number_Canon : Nat := 54
theorem D.number_Canon : T.prog.funcs[F.number_Canon]? = some Tryd.f54 := Tryd.func54
abbrev F.word_Read : Nat := 55
theorem D.word_Read : T.prog.funcs[F.word_Read]? = some Tryd.f55 := Tryd.func55
abbrev F.word_Frac_Sign : Nat := 56
theorem D.word_Frac_Sign : T.prog.funcs[F.word_Frac_Sign]? = some Tryd.f56 := Tryd.func56
abbrev F.number_one : Nat := 57
theorem D.number_one : T.prog.funcs[F.number_one]? = some Tryd.f57 := Tryd.func57
abbrev F.word_Frac_Opposite : Nat := 58
theorem D.word_Frac_Opposite : T.prog.funcs[F.word_Frac_Opposite]? = some Tryd.f58 := Tryd.func58
abbrev F.number_Abs_1 : Nat := 59
theorem D.number_Abs_1 : T.prog.funcs[F.number_Abs_1]? = some Tryd.f59 := Tryd.func59
abbrev F.ref01_words : Nat := 60
theorem D.ref01_words : T.prog.funcs[F.ref01_words]? = some Tryd.f60 := Tryd.func60
abbrev F.ref01_Over : Nat := 61
theorem D.ref01_Over : T.prog.funcs[F.ref01_Over]? = some Tryd.f61 := Tryd.func61
abbrev F.ref01_NatOf : Nat := 62
theorem D.ref01_NatOf : T.prog.funcs[F.ref01_NatOf]? = some Tryd.f62 := Tryd.func62
abbrev F.ref01_Make : Nat := 63
theorem D.ref01_Make : T.prog.funcs[F.ref01_Make]? = some Tryd.f63 := Tryd.func63
abbrev F.ref01_list : Nat := 64
theorem D.ref01_list : T.prog.funcs[F.ref01_list]? = some Tryd.f64 := Tryd.func64
abbrev F.ref01_Q_whole : Nat := 65
theorem D.ref01_Q_whole : T.prog.funcs[F.ref01_Q_whole]? = some Tryd.f65 := Tryd.func65
abbrev F.word_Nat_Root : Nat := 66
theorem D.word_Nat_Root : T.prog.funcs[F.word_Nat_Root]? = some Tryd.f66 := Tryd.func66
abbrev F.word_Frac_Give : Nat := 67
theorem D.word_Frac_Give : T.prog.funcs[F.word_Frac_Give]? = some Tryd.f67 := Tryd.func67
abbrev F.ref01_Exact : Nat := 68
theorem D.ref01_Exact : T.prog.funcs[F.ref01_Exact]? = some Tryd.f68 := Tryd.func68
abbrev F.word_Frac_Cmp : Nat := 69
theorem D.word_Frac_Cmp : T.prog.funcs[F.word_Frac_Cmp]? = some Tryd.f69 := Tryd.func69
abbrev F.number_two : Nat := 70
theorem D.number_two : T.prog.funcs[F.number_two]? = some Tryd.f70 := Tryd.func70
abbrev F.number_Sub_1 : Nat := 71
theorem D.number_Sub_1 : T.prog.funcs[F.number_Sub_1]? = some Tryd.f71 := Tryd.func71
abbrev F.word_Frac_Add : Nat := 72
theorem D.word_Frac_Add : T.prog.funcs[F.word_Frac_Add]? = some Tryd.f72 := Tryd.func72
abbrev F.number_root : Nat := 73
theorem D.number_root : T.prog.funcs[F.number_root]? = some Tryd.f73 := Tryd.func73
abbrev F.ref01_Done : Nat := 74
theorem D.ref01_Done : T.prog.funcs[F.ref01_Done]? = some Tryd.f74 := Tryd.func74
abbrev F.ref01_RootAbove : Nat := 75
theorem D.ref01_RootAbove : T.prog.funcs[F.ref01_RootAbove]? = some Tryd.f75 := Tryd.func75
abbrev F.ref01_RootBelow : Nat := 76
theorem D.ref01_RootBelow : T.prog.funcs[F.ref01_RootBelow]? = some Tryd.f76 := Tryd.func76
abbrev F.number_round : Nat := 77
theorem D.number_round : T.prog.funcs[F.number_round]? = some Tryd.f77 := Tryd.func77
abbrev F.ref01_Diff : Nat := 78
theorem D.ref01_Diff : T.prog.funcs[F.ref01_Diff]? = some Tryd.f78 := Tryd.func78
abbrev F.ref01_NatShl : Nat := 79
theorem D.ref01_NatShl : T.prog.funcs[F.ref01_NatShl]? = some Tryd.f79 := Tryd.func79
abbrev F.ref01_Q_den : Nat := 80
theorem D.ref01_Q_den : T.prog.funcs[F.ref01_Q_den]? = some Tryd.f80 := Tryd.func80
abbrev F.word_Frac_Mul : Nat := 81
theorem D.word_Frac_Mul : T.prog.funcs[F.word_Frac_Mul]? = some Tryd.f81 := Tryd.func81
abbrev F.number_decimal : Nat := 82
theorem D.number_decimal : T.prog.funcs[F.number_decimal]? = some Tryd.f82 := Tryd.func82
abbrev F.word_Nat_One : Nat := 83
theorem D.word_Nat_One : T.prog.funcs[F.word_Nat_One]? = some Tryd.f83 := Tryd.func83
abbrev F.word_Nat_Bits : Nat := 84
theorem D.word_Nat_Bits : T.prog.funcs[F.word_Nat_Bits]? = some Tryd.f84 := Tryd.func84
abbrev F.number_simplest : Nat := 85
theorem D.number_simplest : T.prog.funcs[F.number_simplest]? = some Tryd.f85 := Tryd.func85
abbrev F.ref01_anyLarge : Nat := 86
theorem D.ref01_anyLarge : T.prog.funcs[F.ref01_anyLarge]? = some Tryd.f86 := Tryd.func86
abbrev F.ref01_Plain : Nat := 87
theorem D.ref01_Plain : T.prog.funcs[F.ref01_Plain]? = some Tryd.f87 := Tryd.func87
abbrev F.number_run : Nat := 88
theorem D.number_run : T.prog.funcs[F.number_run]? = some Tryd.f88 := Tryd.func88
abbrev F.word_Reduce : Nat := 89
theorem D.word_Reduce : T.prog.funcs[F.word_Reduce]? = some Tryd.f89 := Tryd.func89
abbrev F.number_natural : Nat := 90
theorem D.number_natural : T.prog.funcs[F.number_natural]? = some Tryd.f90 := Tryd.func90
abbrev F.word_Small : Nat := 91
theorem D.word_Small : T.prog.funcs[F.word_Small]? = some Tryd.f91 := Tryd.func91
abbrev F.word_Nat_Pow : Nat := 92
theorem D.word_Nat_Pow : T.prog.funcs[F.word_Nat_Pow]? = some Tryd.f92 := Tryd.func92
abbrev F.word_Nat_Zero : Nat := 93
theorem D.word_Nat_Zero : T.prog.funcs[F.word_Nat_Zero]? = some Tryd.f93 := Tryd.func93
abbrev F.ref01_NatMul : Nat := 94
theorem D.ref01_NatMul : T.prog.funcs[F.ref01_NatMul]? = some Tryd.f94 := Tryd.func94
abbrev F.word_Frac_Inverse : Nat := 95
theorem D.word_Frac_Inverse : T.prog.funcs[F.word_Frac_Inverse]? = some Tryd.f95 := Tryd.func95
abbrev F.word_Frac_Pow : Nat := 96
theorem D.word_Frac_Pow : T.prog.funcs[F.word_Frac_Pow]? = some Tryd.f96 := Tryd.func96
abbrev F.word_Int : Nat := 97
theorem D.word_Int : T.prog.funcs[F.word_Int]? = some Tryd.f97 := Tryd.func97
abbrev F.number_Canon_1 : Nat := 98
theorem D.number_Canon_1 : T.prog.funcs[F.number_Canon_1]? = some Tryd.f98 := Tryd.func98
abbrev F.word_Of : Nat := 99
theorem D.word_Of : T.prog.funcs[F.word_Of]? = some Tryd.f99 := Tryd.func99
abbrev F.word_Frac_Fits : Nat := 100
theorem D.word_Frac_Fits : T.prog.funcs[F.word_Frac_Fits]? = some Tryd.f100 := Tryd.func100
abbrev F.ref01_trim : Nat := 101
theorem D.ref01_trim : T.prog.funcs[F.ref01_trim]? = some Tryd.f101 := Tryd.func101
abbrev F.ref01_NatGcd : Nat := 102
theorem D.ref01_NatGcd : T.prog.funcs[F.ref01_NatGcd]? = some Tryd.f102 := Tryd.func102
abbrev F.ref01_NatDiv : Nat := 103
theorem D.ref01_NatDiv : T.prog.funcs[F.ref01_NatDiv]? = some Tryd.f103 := Tryd.func103
abbrev F.word_Nat_Shl : Nat := 104
theorem D.word_Nat_Shl : T.prog.funcs[F.word_Nat_Shl]? = some Tryd.f104 := Tryd.func104
abbrev F.word_Nat_Div : Nat := 105
theorem D.word_Nat_Div : T.prog.funcs[F.word_Nat_Div]? = some Tryd.f105 := Tryd.func105
abbrev F.word_Nat_Mul : Nat := 106
theorem D.word_Nat_Mul : T.prog.funcs[F.word_Nat_Mul]? = some Tryd.f106 := Tryd.func106
abbrev F.word_Nat_Add : Nat := 107
theorem D.word_Nat_Add : T.prog.funcs[F.word_Nat_Add]? = some Tryd.f107 := Tryd.func107
abbrev F.word_Nat_DivSmall : Nat := 108
theorem D.word_Nat_DivSmall : T.prog.funcs[F.word_Nat_DivSmall]? = some Tryd.f108 := Tryd.func108
abbrev F.word_Nat_Cmp : Nat := 109
theorem D.word_Nat_Cmp : T.prog.funcs[F.word_Nat_Cmp]? = some Tryd.f109 := Tryd.func109
abbrev F.slices_Clone_of__of_uint32_uint32 : Nat := 110
theorem D.slices_Clone_of__of_uint32_uint32 : T.prog.funcs[F.slices_Clone_of__of_uint32_uint32]? = some Tryd.f110 := Tryd.func110
abbrev F.ref01_NatRoot : Nat := 111
theorem D.ref01_NatRoot : T.prog.funcs[F.ref01_NatRoot]? = some Tryd.f111 := Tryd.func111
abbrev F.ref01_Power : Nat := 112
theorem D.ref01_Power : T.prog.funcs[F.ref01_Power]? = some Tryd.f112 := Tryd.func112
abbrev F.word_Nat_Sub : Nat := 113
theorem D.word_Nat_Sub : T.prog.funcs[F.word_Nat_Sub]? = some Tryd.f113 := Tryd.func113
abbrev F.ref01_Sum : Nat := 114
theorem D.ref01_Sum : T.prog.funcs[F.ref01_Sum]? = some Tryd.f114 := Tryd.func114
abbrev F.word_Frac_Grid : Nat := 115
theorem D.word_Frac_Grid : T.prog.funcs[F.word_Frac_Grid]? = some Tryd.f115 := Tryd.func115
abbrev F.slices_Reverse_of__of_byte_byte : Nat := 116
theorem D.slices_Reverse_of__of_byte_byte : T.prog.funcs[F.slices_Reverse_of__of_byte_byte]? = some Tryd.f116 := Tryd.func116
abbrev F.math_bits_Len32 : Nat := 117
theorem D.math_bits_Len32 : T.prog.funcs[F.math_bits_Len32]? = some Tryd.f117 := Tryd.func117
abbrev F.ref01_plain : Nat := 118
theorem D.ref01_plain : T.prog.funcs[F.ref01_plain]? = some Tryd.f118 := Tryd.func118
abbrev F.word_Nat_Twos : Nat := 119
theorem D.word_Nat_Twos : T.prog.funcs[F.word_Nat_Twos]? = some Tryd.f119 := Tryd.func119
abbrev F.word_Nat_Shr : Nat := 120
theorem D.word_Nat_Shr : T.prog.funcs[F.word_Nat_Shr]? = some Tryd.f120 := Tryd.func120
abbrev F.word_Nat_GCD : Nat := 121
theorem D.word_Nat_GCD : T.prog.funcs[F.word_Nat_GCD]? = some Tryd.f121 := Tryd.func121
abbrev F.ref01_small : Nat := 122
theorem D.ref01_small : T.prog.funcs[F.ref01_small]? = some Tryd.f122 := Tryd.func122
abbrev F.ref01_digit : Nat := 123
theorem D.ref01_digit : T.prog.funcs[F.ref01_digit]? = some Tryd.f123 := Tryd.func123
abbrev F.ref01_NatShr : Nat := 124
theorem D.ref01_NatShr : T.prog.funcs[F.ref01_NatShr]? = some Tryd.f124 := Tryd.func124
abbrev F.math_bits_LeadingZeros32 : Nat := 125
theorem D.math_bits_LeadingZeros32 : T.prog.funcs[F.math_bits_LeadingZeros32]? = some Tryd.f125 := Tryd.func125
abbrev F.word_digit : Nat := 126
theorem D.word_digit : T.prog.funcs[F.word_digit]? = some Tryd.f126 := Tryd.func126
abbrev F.ref01_NatBits : Nat := 127
theorem D.ref01_NatBits : T.prog.funcs[F.ref01_NatBits]? = some Tryd.f127 := Tryd.func127
abbrev F.ref01_NatPow : Nat := 128
theorem D.ref01_NatPow : T.prog.funcs[F.ref01_NatPow]? = some Tryd.f128 := Tryd.func128
abbrev F.ref01_NatAdd : Nat := 129
theorem D.ref01_NatAdd : T.prog.funcs[F.ref01_NatAdd]? = some Tryd.f129 := Tryd.func129
abbrev F.ref01_Div : Nat := 130
theorem D.ref01_Div : T.prog.funcs[F.ref01_Div]? = some Tryd.f130 := Tryd.func130
abbrev F.ref01_NatSub : Nat := 131
theorem D.ref01_NatSub : T.prog.funcs[F.ref01_NatSub]? = some Tryd.f131 := Tryd.func131
abbrev F.math_bits_TrailingZeros32 : Nat := 132
theorem D.math_bits_TrailingZeros32 : T.prog.funcs[F.math_bits_TrailingZeros32]? = some Tryd.f132 := Tryd.func132
abbrev F.ref01_less : Nat := 133
theorem D.ref01_less : T.prog.funcs[F.ref01_less]? = some Tryd.f133 := Tryd.func133
abbrev Ty.int64 : Nat := 2
abbrev Ty.int : Nat := 3
abbrev Ty.bool : Nat := 4
abbrev Ty.uint8 : Nat := 5
abbrev Ty.int32 : Nat := 21
abbrev Ty.api_Rat : Nat := 24
abbrev Ty.api_Errno : Nat := 25
abbrev Ty.ref01_Nat : Nat := 32
abbrev Ty.ref01_Q : Nat := 34
abbrev Ty.uint16 : Nat := 54
abbrev Ty.word_Nat : Nat := 67
abbrev Ty.word_Frac : Nat := 69
abbrev Ty.uint32 : Nat := 78
abbrev Ty.uint64 : Nat := 80
abbrev Gl.math_bits_deBruijn32tab : Nat := 0
end Go.Proofs.YteblflmnhegmjaaDoor
