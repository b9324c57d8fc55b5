/- The tables of this seat's translation as the engine wants them: the types' shapes and zero values, the functions' numbers by name. Printed by program; every row is checked by Lean. -/
import Derived.Test.YtchcjbbnkcodjaaGreatDoorProg
import Derived.Test.YtchcjbbnkcodjaaGreatDoorVcRule
import Derived.KernelRfl
set_option linter.unusedVariables false
set_option linter.unusedSimpArgs false
namespace Go.Proofs.YtchcjbbnkcodjaaGreatDoor
open Go Go.Vc
/-- a search tree -/
inductive BT (α : Type) where
  | leaf
  | node (l : BT α) (k : Nat) (x : α) (r : BT α)
def look {α : Type} : BT α → Nat → Option α
  | .leaf, _ => none
  | .node l k x r, t => match Nat.beq t k with
    | true => some x
    | false => match Nat.blt t k with
      | true => look l t
      | false => look r t
def BT.toL {α : Type} : BT α → List (Nat × α)
  | .leaf => []
  | .node l k x r => l.toL ++ (k, x) :: r.toL
theorem look_mem {α : Type} : ∀ {b : BT α} {t : Nat} {x : α}, look b t = some x → (t, x) ∈ b.toL
  | .leaf, _, _, h => by simp [look] at h
  | .node l k y r, t, x, h => by
    simp only [look] at h
    split at h
    · rename_i e
      obtain rfl := Nat.eq_of_beq_eq_true e
      cases h; simp [BT.toL]
    · split at h
      · exact List.mem_append_left _ (look_mem h)
      · exact List.mem_append_right _ (List.mem_cons_of_mem _ (look_mem h))
def undL : List (Nat × TypeDesc) := [(1, .func #[] #[] false),
  (2, .int .i64),
  (3, .int .i64),
  (4, .bool),
  (5, .int .u8),
  (6, .int .u8),
  (7, .struct #[{ name := "x", type := 2, offset := 0, embedded := false, tag := "", pkgPath := "runtime", byteOffset := 0 }, { name := "y", type := 3, offset := 1, embedded := false, tag := "", pkgPath := "runtime", byteOffset := 8 }, { name := "signed", type := 4, offset := 2, embedded := false, tag := "", pkgPath := "runtime", byteOffset := 16 }, { name := "code", type := 6, offset := 3, embedded := false, tag := "", pkgPath := "runtime", byteOffset := 17 }]),
  (8, .struct #[{ name := "x", type := 2, offset := 0, embedded := false, tag := "", pkgPath := "runtime", byteOffset := 0 }, { name := "y", type := 3, offset := 1, embedded := false, tag := "", pkgPath := "runtime", byteOffset := 8 }, { name := "signed", type := 4, offset := 2, embedded := false, tag := "", pkgPath := "runtime", byteOffset := 16 }, { name := "code", type := 6, offset := 3, embedded := false, tag := "", pkgPath := "runtime", byteOffset := 17 }]),
  (9, .string),
  (10, .string),
  (11, .string),
  (12, .int .u64),
  (13, .struct #[{ name := "msg", type := 9, offset := 0, embedded := false, tag := "", pkgPath := "runtime", byteOffset := 0 }, { name := "addr", type := 12, offset := 1, embedded := false, tag := "", pkgPath := "runtime", byteOffset := 16 }]),
  (14, .struct #[{ name := "msg", type := 9, offset := 0, embedded := false, tag := "", pkgPath := "runtime", byteOffset := 0 }, { name := "addr", type := 12, offset := 1, embedded := false, tag := "", pkgPath := "runtime", byteOffset := 16 }]),
  (15, .pointer 286),
  (16, .pointer 289),
  (17, .pointer 296),
  (18, .struct #[{ name := "typ", type := 17, offset := 0, embedded := false, tag := "", pkgPath := "internal/runtime/maps", byteOffset := 0 }]),
  (19, .struct #[{ name := "typ", type := 17, offset := 0, embedded := false, tag := "", pkgPath := "internal/runtime/maps", byteOffset := 0 }]),
  (21, .int .i32),
  (22, .func #[9] #[4] false),
  (23, .slice 138),
  (24, .struct #[{ name := "Neg", type := 4, offset := 0, embedded := false, tag := "", pkgPath := "", byteOffset := 0 }, { name := "Num", type := 23, offset := 1, embedded := false, tag := "", pkgPath := "", byteOffset := 8 }, { name := "Den", type := 23, offset := 2, embedded := false, tag := "", pkgPath := "", byteOffset := 32 }]),
  (25, .struct #[{ name := "Neg", type := 4, offset := 0, embedded := false, tag := "", pkgPath := "", byteOffset := 0 }, { name := "Num", type := 23, offset := 1, embedded := false, tag := "", pkgPath := "", byteOffset := 8 }, { name := "Den", type := 23, offset := 2, embedded := false, tag := "", pkgPath := "", byteOffset := 32 }]),
  (26, .slice 28),
  (27, .struct #[{ name := "Op", type := 3, offset := 0, embedded := false, tag := "", pkgPath := "", byteOffset := 0 }, { name := "Arg", type := 3, offset := 1, embedded := false, tag := "", pkgPath := "", byteOffset := 8 }, { name := "Num", type := 25, offset := 2, embedded := false, tag := "", pkgPath := "", byteOffset := 16 }, { name := "Name", type := 9, offset := 5, embedded := false, tag := "", pkgPath := "", byteOffset := 72 }, { name := "Kids", type := 26, offset := 6, embedded := false, tag := "", pkgPath := "", byteOffset := 88 }]),
  (28, .struct #[{ name := "Op", type := 3, offset := 0, embedded := false, tag := "", pkgPath := "", byteOffset := 0 }, { name := "Arg", type := 3, offset := 1, embedded := false, tag := "", pkgPath := "", byteOffset := 8 }, { name := "Num", type := 25, offset := 2, embedded := false, tag := "", pkgPath := "", byteOffset := 16 }, { name := "Name", type := 9, offset := 5, embedded := false, tag := "", pkgPath := "", byteOffset := 72 }, { name := "Kids", type := 26, offset := 6, embedded := false, tag := "", pkgPath := "", byteOffset := 88 }]),
  (29, .int .i64),
  (31, .func #[9] #[28, 3, 29] false),
  (32, .func #[] #[4] false),
  (33, .func #[28, 29, 28, 29] #[4] false),
  (34, .func #[28] #[4] false),
  (36, .func #[28] #[9, 29] false),
  (37, .func #[28] #[3] false),
  (38, .func #[28, 28] #[4] false),
  (40, .func #[28, 9, 9] #[28, 29] false),
  (41, .func #[28, 9, 9] #[4] false),
  (42, .slice 96),
  (43, .func #[28, 42] #[28, 29] false),
  (44, .func #[28, 42] #[4] false),
  (46, .func #[28, 28] #[4, 29] false),
  (48, .func #[28] #[3, 29] false),
  (49, .slice 9),
  (51, .func #[28] #[49, 29] false),
  (52, .func #[28] #[4, 29] false),
  (53, .func #[49, 49] #[4] false),
  (55, .func #[28] #[28, 28, 28, 29] false),
  (56, .func #[28, 9] #[4, 29] false),
  (57, .func #[28, 9] #[4] false),
  (58, .func #[3, 28, 28] #[28] false),
  (59, .func #[28, 28, 9] #[4] false),
  (60, .func #[] #[49] false),
  (61, .slice 115),
  (63, .func #[9, 4] #[61, 3] false),
  (64, .pointer 122),
  (65, .func #[61, 3] #[64] false),
  (66, .struct #[{ name := "Err", type := 29, offset := 0, embedded := false, tag := "", pkgPath := "", byteOffset := 0 }, { name := "At", type := 3, offset := 1, embedded := false, tag := "", pkgPath := "", byteOffset := 8 }]),
  (67, .struct #[{ name := "Err", type := 29, offset := 0, embedded := false, tag := "", pkgPath := "", byteOffset := 0 }, { name := "At", type := 3, offset := 1, embedded := false, tag := "", pkgPath := "", byteOffset := 8 }]),
  (68, .func #[1] #[67] false),
  (69, .func #[] #[28] false),
  (70, .func #[] #[67] false),
  (71, .func #[28] #[28, 29] false),
  (72, .slice 78),
  (74, .func #[9, 4] #[72, 3, 4] false),
  (75, .pointer 82),
  (76, .func #[72, 3] #[75] false),
  (77, .struct #[{ name := "Kind", type := 3, offset := 0, embedded := false, tag := "", pkgPath := "", byteOffset := 0 }, { name := "At", type := 3, offset := 1, embedded := false, tag := "", pkgPath := "", byteOffset := 8 }, { name := "Text", type := 9, offset := 2, embedded := false, tag := "", pkgPath := "", byteOffset := 16 }]),
  (78, .struct #[{ name := "Kind", type := 3, offset := 0, embedded := false, tag := "", pkgPath := "", byteOffset := 0 }, { name := "At", type := 3, offset := 1, embedded := false, tag := "", pkgPath := "", byteOffset := 8 }, { name := "Text", type := 9, offset := 2, embedded := false, tag := "", pkgPath := "", byteOffset := 16 }]),
  (79, .func #[] #[78] false),
  (80, .slice 136),
  (81, .struct #[{ name := "L", type := 72, offset := 0, embedded := false, tag := "", pkgPath := "", byteOffset := 0 }, { name := "I", type := 3, offset := 1, embedded := false, tag := "", pkgPath := "", byteOffset := 24 }, { name := "End", type := 3, offset := 2, embedded := false, tag := "", pkgPath := "", byteOffset := 32 }, { name := "Bad", type := 3, offset := 3, embedded := false, tag := "", pkgPath := "", byteOffset := 40 }, { name := "Uses", type := 80, offset := 4, embedded := false, tag := "", pkgPath := "", byteOffset := 48 }]),
  (82, .struct #[{ name := "L", type := 72, offset := 0, embedded := false, tag := "", pkgPath := "", byteOffset := 0 }, { name := "I", type := 3, offset := 1, embedded := false, tag := "", pkgPath := "", byteOffset := 24 }, { name := "End", type := 3, offset := 2, embedded := false, tag := "", pkgPath := "", byteOffset := 32 }, { name := "Bad", type := 3, offset := 3, embedded := false, tag := "", pkgPath := "", byteOffset := 40 }, { name := "Uses", type := 80, offset := 4, embedded := false, tag := "", pkgPath := "", byteOffset := 48 }]),
  (83, .func #[72, 80] #[3, 29] false),
  (84, .func #[25] #[4] false),
  (85, .func #[28] #[9] false),
  (86, .func #[89] #[9] false),
  (87, .slice 138),
  (88, .struct #[{ name := "Neg", type := 4, offset := 0, embedded := false, tag := "", pkgPath := "", byteOffset := 0 }, { name := "N", type := 87, offset := 1, embedded := false, tag := "", pkgPath := "", byteOffset := 8 }, { name := "D", type := 87, offset := 2, embedded := false, tag := "", pkgPath := "", byteOffset := 32 }]),
  (89, .struct #[{ name := "Neg", type := 4, offset := 0, embedded := false, tag := "", pkgPath := "", byteOffset := 0 }, { name := "N", type := 87, offset := 1, embedded := false, tag := "", pkgPath := "", byteOffset := 8 }, { name := "D", type := 87, offset := 2, embedded := false, tag := "", pkgPath := "", byteOffset := 32 }]),
  (90, .func #[25] #[89] false),
  (91, .func #[25, 25] #[4] false),
  (92, .func #[28, 93] #[28] false),
  (93, .func #[28] #[28, 4] false),
  (94, .func #[28, 42] #[28] false),
  (95, .struct #[{ name := "Name", type := 9, offset := 0, embedded := false, tag := "", pkgPath := "", byteOffset := 0 }, { name := "E", type := 28, offset := 1, embedded := false, tag := "", pkgPath := "", byteOffset := 16 }]),
  (96, .struct #[{ name := "Name", type := 9, offset := 0, embedded := false, tag := "", pkgPath := "", byteOffset := 0 }, { name := "E", type := 28, offset := 1, embedded := false, tag := "", pkgPath := "", byteOffset := 16 }]),
  (97, .map 9 28),
  (99, .func #[28, 3, 3] #[3] false),
  (100, .map 9 4),
  (101, .func #[34] #[] false),
  (102, .func #[28] #[101] false),
  (103, .func #[105] #[49] false),
  (104, .func #[22] #[] false),
  (105, .func #[22] #[] false),
  (106, .func #[100] #[105] false),
  (107, .func #[28, 49] #[49] false),
  (109, .func #[28] #[28, 28, 28, 4] false),
  (110, .array 3 29),
  (112, .func #[28] #[4, 28, 28, 28] false),
  (113, .func #[28, 9, 4] #[4] false),
  (114, .struct #[{ name := "Kind", type := 3, offset := 0, embedded := false, tag := "", pkgPath := "", byteOffset := 0 }, { name := "Text", type := 9, offset := 1, embedded := false, tag := "", pkgPath := "", byteOffset := 8 }, { name := "At", type := 3, offset := 2, embedded := false, tag := "", pkgPath := "", byteOffset := 24 }]),
  (115, .struct #[{ name := "Kind", type := 3, offset := 0, embedded := false, tag := "", pkgPath := "", byteOffset := 0 }, { name := "Text", type := 9, offset := 1, embedded := false, tag := "", pkgPath := "", byteOffset := 8 }, { name := "At", type := 3, offset := 2, embedded := false, tag := "", pkgPath := "", byteOffset := 24 }]),
  (116, .func #[9] #[3] false),
  (118, .func #[9] #[3, 4] false),
  (119, .func #[9, 9] #[4] false),
  (120, .slice 131),
  (121, .struct #[{ name := "tokens", type := 61, offset := 0, embedded := false, tag := "", pkgPath := "inequality/syntax", byteOffset := 0 }, { name := "next", type := 3, offset := 1, embedded := false, tag := "", pkgPath := "inequality/syntax", byteOffset := 24 }, { name := "end", type := 3, offset := 2, embedded := false, tag := "", pkgPath := "inequality/syntax", byteOffset := 32 }, { name := "counts", type := 120, offset := 3, embedded := false, tag := "", pkgPath := "inequality/syntax", byteOffset := 40 }]),
  (122, .struct #[{ name := "tokens", type := 61, offset := 0, embedded := false, tag := "", pkgPath := "inequality/syntax", byteOffset := 0 }, { name := "next", type := 3, offset := 1, embedded := false, tag := "", pkgPath := "inequality/syntax", byteOffset := 24 }, { name := "end", type := 3, offset := 2, embedded := false, tag := "", pkgPath := "inequality/syntax", byteOffset := 32 }, { name := "counts", type := 120, offset := 3, embedded := false, tag := "", pkgPath := "inequality/syntax", byteOffset := 40 }]),
  (123, .func #[3, 3, 26] #[28] true),
  (124, .slice 67),
  (126, .func #[9, 9] #[9, 9, 4] false),
  (127, .func #[9, 9] #[9] false),
  (129, .func #[9] #[25, 29] false),
  (130, .struct #[{ name := "at", type := 3, offset := 0, embedded := false, tag := "", pkgPath := "inequality/syntax", byteOffset := 0 }, { name := "low", type := 3, offset := 1, embedded := false, tag := "", pkgPath := "inequality/syntax", byteOffset := 8 }, { name := "high", type := 3, offset := 2, embedded := false, tag := "", pkgPath := "inequality/syntax", byteOffset := 16 }, { name := "n", type := 3, offset := 3, embedded := false, tag := "", pkgPath := "inequality/syntax", byteOffset := 24 }]),
  (131, .struct #[{ name := "at", type := 3, offset := 0, embedded := false, tag := "", pkgPath := "inequality/syntax", byteOffset := 0 }, { name := "low", type := 3, offset := 1, embedded := false, tag := "", pkgPath := "inequality/syntax", byteOffset := 8 }, { name := "high", type := 3, offset := 2, embedded := false, tag := "", pkgPath := "inequality/syntax", byteOffset := 16 }, { name := "n", type := 3, offset := 3, embedded := false, tag := "", pkgPath := "inequality/syntax", byteOffset := 24 }]),
  (132, .func #[28] #[28] false),
  (133, .func #[9, 3] #[3] false),
  (134, .func #[9, 3, 4] #[3] false),
  (135, .struct #[{ name := "T", type := 78, offset := 0, embedded := false, tag := "", pkgPath := "", byteOffset := 0 }, { name := "Root", type := 4, offset := 3, embedded := false, tag := "", pkgPath := "", byteOffset := 32 }]),
  (136, .struct #[{ name := "T", type := 78, offset := 0, embedded := false, tag := "", pkgPath := "", byteOffset := 0 }, { name := "Root", type := 4, offset := 3, embedded := false, tag := "", pkgPath := "", byteOffset := 32 }]),
  (137, .func #[89] #[25] false),
  (138, .int .u32),
  (139, .pointer 142),
  (140, .slice 5),
  (141, .struct #[{ name := "addr", type := 139, offset := 0, embedded := false, tag := "", pkgPath := "strings", byteOffset := 0 }, { name := "buf", type := 140, offset := 1, embedded := false, tag := "", pkgPath := "strings", byteOffset := 8 }]),
  (142, .struct #[{ name := "addr", type := 139, offset := 0, embedded := false, tag := "", pkgPath := "strings", byteOffset := 0 }, { name := "buf", type := 140, offset := 1, embedded := false, tag := "", pkgPath := "strings", byteOffset := 8 }]),
  (143, .func #[139, 28] #[] false),
  (144, .func #[] #[9] false),
  (145, .func #[28, 3] #[9] false),
  (146, .func #[3] #[9] false),
  (147, .func #[87] #[9] false),
  (148, .func #[23] #[87] false),
  (149, .func #[150] #[87] false),
  (150, .int .u64),
  (151, .func #[4, 87, 87] #[89] false),
  (152, .func #[89, 89] #[3] false),
  (153, .func #[25, 25] #[3, 29] false),
  (154, .func #[26, 26, 38] #[4] false),
  (155, .func #[28, 34] #[4] false),
  (156, .func #[49] #[] false),
  (157, .func #[49, 9] #[49] false),
  (158, .func #[3] #[4] false),
  (159, .func #[28, 3, 28] #[28] false),
  (160, .func #[3, 3, 28] #[28] false),
  (161, .func #[5] #[4] false),
  (162, .func #[] #[3] false),
  (163, .func #[9, 5] #[9] false),
  (164, .array 256 4),
  (165, .array 256 4),
  (167, .func #[9] #[165, 4] false),
  (168, .func #[9, 169] #[9] false),
  (169, .pointer 165),
  (171, .func #[9] #[9, 9] false),
  (172, .slice 138),
  (173, .struct #[{ name := "Neg", type := 4, offset := 0, embedded := false, tag := "", pkgPath := "", byteOffset := 0 }, { name := "Num", type := 172, offset := 1, embedded := false, tag := "", pkgPath := "", byteOffset := 8 }, { name := "Den", type := 172, offset := 2, embedded := false, tag := "", pkgPath := "", byteOffset := 32 }]),
  (174, .struct #[{ name := "Neg", type := 4, offset := 0, embedded := false, tag := "", pkgPath := "", byteOffset := 0 }, { name := "Num", type := 172, offset := 1, embedded := false, tag := "", pkgPath := "", byteOffset := 8 }, { name := "Den", type := 172, offset := 2, embedded := false, tag := "", pkgPath := "", byteOffset := 32 }]),
  (175, .func #[4, 172, 172] #[174] false),
  (176, .func #[9] #[172] false),
  (177, .func #[150] #[172] false),
  (178, .func #[3] #[172] false),
  (179, .func #[] #[25, 29] false),
  (180, .func #[25] #[25, 29] false),
  (181, .func #[89] #[25, 29] false),
  (182, .func #[9] #[87] false),
  (183, .func #[87, 3] #[87] false),
  (184, .func #[89] #[4] false),
  (185, .func #[87] #[23] false),
  (186, .func #[25] #[9, 29] false),
  (190, .func #[9] #[3, 188] false),
  (191, .func #[139, 28, 3] #[] false),
  (192, .func #[139, 28, 3, 3] #[] false),
  (193, .pointer 5),
  (194, .func #[3] #[89] false),
  (196, .func #[87, 138] #[87, 138] false),
  (197, .func #[87] #[87] false),
  (198, .func #[87, 87] #[87] false),
  (200, .func #[87, 87] #[87, 87] false),
  (201, .func #[89] #[3] false),
  (202, .func #[89, 89] #[89] false),
  (204, .func #[25] #[174, 4] false),
  (205, .func #[174] #[3] false),
  (206, .func #[3] #[3] false),
  (207, .func #[3] #[3, 4] false),
  (208, .func #[23] #[172] false),
  (209, .func #[49, 105] #[49] false),
  (210, .func #[49, 3, 3, 3] #[] false),
  (211, .func #[212] #[3] false),
  (212, .int .u64),
  (213, .func #[28] #[174, 4] false),
  (215, .func #[28] #[89, 4] false),
  (216, .func #[3, 3] #[3] false),
  (217, .func #[9, 9] #[3] false),
  (219, .func #[9] #[21, 3] false),
  (220, .func #[9, 21] #[4] false),
  (221, .func #[172] #[172] false),
  (223, .func #[172] #[172, 172] false),
  (224, .func #[23] #[23] false),
  (225, .func #[25, 226] #[25, 29] false),
  (226, .func #[174] #[174] false),
  (227, .func #[4] #[3] false),
  (228, .func #[172] #[9] false),
  (229, .map 3 9),
  (230, .func #[87, 87] #[3] false),
  (231, .func #[87, 87] #[138] false),
  (232, .func #[89] #[89] false),
  (233, .func #[172] #[3] false),
  (234, .func #[49, 3, 3] #[] false),
  (235, .int .i64),
  (237, .func #[49, 3, 3] #[3, 235] false),
  (238, .func #[49, 3, 3] #[4] false),
  (239, .func #[49, 3, 3, 3] #[3] false),
  (240, .func #[49, 3, 3, 3] #[3, 4] false),
  (241, .func #[138] #[3] false),
  (242, .func #[150] #[3] false),
  (243, .func #[] #[174] false),
  (245, .func #[3] #[115, 4] false),
  (246, .func #[3] #[26] false),
  (247, .func #[9] #[] false),
  (248, .func #[] #[25] false),
  (249, .func #[9, 5] #[3] false),
  (250, .func #[9, 21] #[3] false),
  (252, .func #[138] #[172, 138] false),
  (253, .func #[23, 172] #[138] false),
  (254, .func #[9] #[28] false),
  (255, .func #[140] #[] false),
  (257, .func #[256] #[256] false),
  (258, .func #[2, 3] #[9] false),
  (259, .func #[87, 87, 150] #[4] false),
  (260, .func #[] #[87] false),
  (261, .int .u64),
  (262, .func #[3] #[212] false),
  (263, .func #[] #[150] false),
  (264, .func #[49, 3, 265] #[3] false),
  (265, .pointer 3),
  (266, .func #[49, 3, 3, 3, 265] #[3] false),
  (268, .func #[9] #[138, 138] false),
  (269, .array 256 5),
  (270, .struct #[{ name := "lo", type := 5, offset := 0, embedded := false, tag := "", pkgPath := "unicode/utf8", byteOffset := 0 }, { name := "hi", type := 5, offset := 1, embedded := false, tag := "", pkgPath := "unicode/utf8", byteOffset := 1 }]),
  (271, .struct #[{ name := "lo", type := 5, offset := 0, embedded := false, tag := "", pkgPath := "unicode/utf8", byteOffset := 0 }, { name := "hi", type := 5, offset := 1, embedded := false, tag := "", pkgPath := "unicode/utf8", byteOffset := 1 }]),
  (272, .array 16 271),
  (273, .func #[21] #[4] false),
  (274, .array 32 5),
  (275, .array 24 5),
  (276, .func #[140, 150] #[] false),
  (278, .func #[140, 150, 3, 4, 4] #[140, 9] false),
  (279, .pointer 261),
  (281, .func #[49, 3, 3, 265] #[3, 3] false),
  (282, .array 20 150),
  (283, .array 65 5),
  (284, .array 64 5),
  (285, .struct #[{ name := "_interface", type := 17, offset := 0, embedded := false, tag := "", pkgPath := "runtime", byteOffset := 0 }, { name := "concrete", type := 17, offset := 1, embedded := false, tag := "", pkgPath := "runtime", byteOffset := 8 }, { name := "asserted", type := 17, offset := 2, embedded := false, tag := "", pkgPath := "runtime", byteOffset := 16 }, { name := "missingMethod", type := 9, offset := 3, embedded := false, tag := "", pkgPath := "runtime", byteOffset := 24 }]),
  (286, .struct #[{ name := "_interface", type := 17, offset := 0, embedded := false, tag := "", pkgPath := "runtime", byteOffset := 0 }, { name := "concrete", type := 17, offset := 1, embedded := false, tag := "", pkgPath := "runtime", byteOffset := 8 }, { name := "asserted", type := 17, offset := 2, embedded := false, tag := "", pkgPath := "runtime", byteOffset := 16 }, { name := "missingMethod", type := 9, offset := 3, embedded := false, tag := "", pkgPath := "runtime", byteOffset := 24 }]),
  (287, .array 0 16),
  (288, .struct #[{ name := "_", type := 287, offset := 0, embedded := false, tag := "", pkgPath := "runtime", byteOffset := 0 }]),
  (289, .struct #[{ name := "_", type := 287, offset := 0, embedded := false, tag := "", pkgPath := "runtime", byteOffset := 0 }]),
  (290, .int .u8),
  (291, .int .u8),
  (292, .func #[256, 256] #[4] false),
  (293, .int .i32),
  (294, .int .i32),
  (295, .struct #[{ name := "Size_", type := 12, offset := 0, embedded := false, tag := "", pkgPath := "", byteOffset := 0 }, { name := "PtrBytes", type := 12, offset := 1, embedded := false, tag := "", pkgPath := "", byteOffset := 8 }, { name := "Hash", type := 138, offset := 2, embedded := false, tag := "", pkgPath := "", byteOffset := 16 }, { name := "TFlag", type := 290, offset := 3, embedded := false, tag := "", pkgPath := "", byteOffset := 20 }, { name := "Align_", type := 5, offset := 4, embedded := false, tag := "", pkgPath := "", byteOffset := 21 }, { name := "FieldAlign_", type := 5, offset := 5, embedded := false, tag := "", pkgPath := "", byteOffset := 22 }, { name := "Kind_", type := 291, offset := 6, embedded := false, tag := "", pkgPath := "", byteOffset := 23 }, { name := "Equal", type := 292, offset := 7, embedded := false, tag := "", pkgPath := "", byteOffset := 24 }, { name := "GCData", type := 193, offset := 8, embedded := false, tag := "", pkgPath := "", byteOffset := 32 }, { name := "Str", type := 293, offset := 9, embedded := false, tag := "", pkgPath := "", byteOffset := 40 }, { name := "PtrToThis", type := 294, offset := 10, embedded := false, tag := "", pkgPath := "", byteOffset := 44 }]),
  (296, .struct #[{ name := "Size_", type := 12, offset := 0, embedded := false, tag := "", pkgPath := "", byteOffset := 0 }, { name := "PtrBytes", type := 12, offset := 1, embedded := false, tag := "", pkgPath := "", byteOffset := 8 }, { name := "Hash", type := 138, offset := 2, embedded := false, tag := "", pkgPath := "", byteOffset := 16 }, { name := "TFlag", type := 290, offset := 3, embedded := false, tag := "", pkgPath := "", byteOffset := 20 }, { name := "Align_", type := 5, offset := 4, embedded := false, tag := "", pkgPath := "", byteOffset := 21 }, { name := "FieldAlign_", type := 5, offset := 5, embedded := false, tag := "", pkgPath := "", byteOffset := 22 }, { name := "Kind_", type := 291, offset := 6, embedded := false, tag := "", pkgPath := "", byteOffset := 23 }, { name := "Equal", type := 292, offset := 7, embedded := false, tag := "", pkgPath := "", byteOffset := 24 }, { name := "GCData", type := 193, offset := 8, embedded := false, tag := "", pkgPath := "", byteOffset := 32 }, { name := "Str", type := 293, offset := 9, embedded := false, tag := "", pkgPath := "", byteOffset := 40 }, { name := "PtrToThis", type := 294, offset := 10, embedded := false, tag := "", pkgPath := "", byteOffset := 44 }])]
def infL : List (Nat × (List Value × Nat)) := [(1, ([.nilFunc], 8)),
  (2, ([.int .i64 0], 8)),
  (3, ([.int .i64 0], 8)),
  (4, ([.bool false], 1)),
  (5, ([.int .u8 0], 1)),
  (6, ([.int .u8 0], 1)),
  (7, ([.int .i64 0, .int .i64 0, .bool false, .int .u8 0], 24)),
  (8, ([.int .i64 0, .int .i64 0, .bool false, .int .u8 0], 24)),
  (9, ([.string ByteArray.empty], 16)),
  (10, ([.string ByteArray.empty], 16)),
  (11, ([.string ByteArray.empty], 16)),
  (12, ([.int .u64 0], 8)),
  (13, ([.string ByteArray.empty, .int .u64 0], 24)),
  (14, ([.string ByteArray.empty, .int .u64 0], 24)),
  (15, ([.pointer none], 8)),
  (16, ([.pointer none], 8)),
  (17, ([.pointer none], 8)),
  (18, ([.pointer none], 8)),
  (19, ([.pointer none], 8)),
  (21, ([.int .i32 0], 4)),
  (22, ([.nilFunc], 8)),
  (23, ([.slice none 0 0], 24)),
  (24, ([.bool false, .slice none 0 0, .slice none 0 0], 56)),
  (25, ([.bool false, .slice none 0 0, .slice none 0 0], 56)),
  (26, ([.slice none 0 0], 24)),
  (27, ([.int .i64 0, .int .i64 0, .bool false, .slice none 0 0, .slice none 0 0, .string ByteArray.empty, .slice none 0 0], 112)),
  (28, ([.int .i64 0, .int .i64 0, .bool false, .slice none 0 0, .slice none 0 0, .string ByteArray.empty, .slice none 0 0], 112)),
  (29, ([.int .i64 0], 8)),
  (31, ([.nilFunc], 8)),
  (32, ([.nilFunc], 8)),
  (33, ([.nilFunc], 8)),
  (34, ([.nilFunc], 8)),
  (36, ([.nilFunc], 8)),
  (37, ([.nilFunc], 8)),
  (38, ([.nilFunc], 8)),
  (40, ([.nilFunc], 8)),
  (41, ([.nilFunc], 8)),
  (42, ([.slice none 0 0], 24)),
  (43, ([.nilFunc], 8)),
  (44, ([.nilFunc], 8)),
  (46, ([.nilFunc], 8)),
  (48, ([.nilFunc], 8)),
  (49, ([.slice none 0 0], 24)),
  (51, ([.nilFunc], 8)),
  (52, ([.nilFunc], 8)),
  (53, ([.nilFunc], 8)),
  (55, ([.nilFunc], 8)),
  (56, ([.nilFunc], 8)),
  (57, ([.nilFunc], 8)),
  (58, ([.nilFunc], 8)),
  (59, ([.nilFunc], 8)),
  (60, ([.nilFunc], 8)),
  (61, ([.slice none 0 0], 24)),
  (63, ([.nilFunc], 8)),
  (64, ([.pointer none], 8)),
  (65, ([.nilFunc], 8)),
  (66, ([.int .i64 0, .int .i64 0], 16)),
  (67, ([.int .i64 0, .int .i64 0], 16)),
  (68, ([.nilFunc], 8)),
  (69, ([.nilFunc], 8)),
  (70, ([.nilFunc], 8)),
  (71, ([.nilFunc], 8)),
  (72, ([.slice none 0 0], 24)),
  (74, ([.nilFunc], 8)),
  (75, ([.pointer none], 8)),
  (76, ([.nilFunc], 8)),
  (77, ([.int .i64 0, .int .i64 0, .string ByteArray.empty], 32)),
  (78, ([.int .i64 0, .int .i64 0, .string ByteArray.empty], 32)),
  (79, ([.nilFunc], 8)),
  (80, ([.slice none 0 0], 24)),
  (81, ([.slice none 0 0, .int .i64 0, .int .i64 0, .int .i64 0, .slice none 0 0], 72)),
  (82, ([.slice none 0 0, .int .i64 0, .int .i64 0, .int .i64 0, .slice none 0 0], 72)),
  (83, ([.nilFunc], 8)),
  (84, ([.nilFunc], 8)),
  (85, ([.nilFunc], 8)),
  (86, ([.nilFunc], 8)),
  (87, ([.slice none 0 0], 24)),
  (88, ([.bool false, .slice none 0 0, .slice none 0 0], 56)),
  (89, ([.bool false, .slice none 0 0, .slice none 0 0], 56)),
  (90, ([.nilFunc], 8)),
  (91, ([.nilFunc], 8)),
  (92, ([.nilFunc], 8)),
  (93, ([.nilFunc], 8)),
  (94, ([.nilFunc], 8)),
  (95, ([.string ByteArray.empty, .int .i64 0, .int .i64 0, .bool false, .slice none 0 0, .slice none 0 0, .string ByteArray.empty, .slice none 0 0], 128)),
  (96, ([.string ByteArray.empty, .int .i64 0, .int .i64 0, .bool false, .slice none 0 0, .slice none 0 0, .string ByteArray.empty, .slice none 0 0], 128)),
  (97, ([.map none], 8)),
  (99, ([.nilFunc], 8)),
  (100, ([.map none], 8)),
  (101, ([.nilFunc], 8)),
  (102, ([.nilFunc], 8)),
  (103, ([.nilFunc], 8)),
  (104, ([.nilFunc], 8)),
  (105, ([.nilFunc], 8)),
  (106, ([.nilFunc], 8)),
  (107, ([.nilFunc], 8)),
  (109, ([.nilFunc], 8)),
  (110, ([.int .i64 0, .int .i64 0, .int .i64 0], 24)),
  (112, ([.nilFunc], 8)),
  (113, ([.nilFunc], 8)),
  (114, ([.int .i64 0, .string ByteArray.empty, .int .i64 0], 32)),
  (115, ([.int .i64 0, .string ByteArray.empty, .int .i64 0], 32)),
  (116, ([.nilFunc], 8)),
  (118, ([.nilFunc], 8)),
  (119, ([.nilFunc], 8)),
  (120, ([.slice none 0 0], 24)),
  (121, ([.slice none 0 0, .int .i64 0, .int .i64 0, .slice none 0 0], 64)),
  (122, ([.slice none 0 0, .int .i64 0, .int .i64 0, .slice none 0 0], 64)),
  (123, ([.nilFunc], 8)),
  (124, ([.slice none 0 0], 24)),
  (126, ([.nilFunc], 8)),
  (127, ([.nilFunc], 8)),
  (129, ([.nilFunc], 8)),
  (130, ([.int .i64 0, .int .i64 0, .int .i64 0, .int .i64 0], 32)),
  (131, ([.int .i64 0, .int .i64 0, .int .i64 0, .int .i64 0], 32)),
  (132, ([.nilFunc], 8)),
  (133, ([.nilFunc], 8)),
  (134, ([.nilFunc], 8)),
  (135, ([.int .i64 0, .int .i64 0, .string ByteArray.empty, .bool false], 40)),
  (136, ([.int .i64 0, .int .i64 0, .string ByteArray.empty, .bool false], 40)),
  (137, ([.nilFunc], 8)),
  (138, ([.int .u32 0], 4)),
  (139, ([.pointer none], 8)),
  (140, ([.slice none 0 0], 24)),
  (141, ([.pointer none, .slice none 0 0], 32)),
  (142, ([.pointer none, .slice none 0 0], 32)),
  (143, ([.nilFunc], 8)),
  (144, ([.nilFunc], 8)),
  (145, ([.nilFunc], 8)),
  (146, ([.nilFunc], 8)),
  (147, ([.nilFunc], 8)),
  (148, ([.nilFunc], 8)),
  (149, ([.nilFunc], 8)),
  (150, ([.int .u64 0], 8)),
  (151, ([.nilFunc], 8)),
  (152, ([.nilFunc], 8)),
  (153, ([.nilFunc], 8)),
  (154, ([.nilFunc], 8)),
  (155, ([.nilFunc], 8)),
  (156, ([.nilFunc], 8)),
  (157, ([.nilFunc], 8)),
  (158, ([.nilFunc], 8)),
  (159, ([.nilFunc], 8)),
  (160, ([.nilFunc], 8)),
  (161, ([.nilFunc], 8)),
  (162, ([.nilFunc], 8)),
  (163, ([.nilFunc], 8)),
  (167, ([.nilFunc], 8)),
  (168, ([.nilFunc], 8)),
  (169, ([.pointer none], 8)),
  (171, ([.nilFunc], 8)),
  (172, ([.slice none 0 0], 24)),
  (173, ([.bool false, .slice none 0 0, .slice none 0 0], 56)),
  (174, ([.bool false, .slice none 0 0, .slice none 0 0], 56)),
  (175, ([.nilFunc], 8)),
  (176, ([.nilFunc], 8)),
  (177, ([.nilFunc], 8)),
  (178, ([.nilFunc], 8)),
  (179, ([.nilFunc], 8)),
  (180, ([.nilFunc], 8)),
  (181, ([.nilFunc], 8)),
  (182, ([.nilFunc], 8)),
  (183, ([.nilFunc], 8)),
  (184, ([.nilFunc], 8)),
  (185, ([.nilFunc], 8)),
  (186, ([.nilFunc], 8)),
  (190, ([.nilFunc], 8)),
  (191, ([.nilFunc], 8)),
  (192, ([.nilFunc], 8)),
  (193, ([.pointer none], 8)),
  (194, ([.nilFunc], 8)),
  (196, ([.nilFunc], 8)),
  (197, ([.nilFunc], 8)),
  (198, ([.nilFunc], 8)),
  (200, ([.nilFunc], 8)),
  (201, ([.nilFunc], 8)),
  (202, ([.nilFunc], 8)),
  (204, ([.nilFunc], 8)),
  (205, ([.nilFunc], 8)),
  (206, ([.nilFunc], 8)),
  (207, ([.nilFunc], 8)),
  (208, ([.nilFunc], 8)),
  (209, ([.nilFunc], 8)),
  (210, ([.nilFunc], 8)),
  (211, ([.nilFunc], 8)),
  (212, ([.int .u64 0], 8)),
  (213, ([.nilFunc], 8)),
  (215, ([.nilFunc], 8)),
  (216, ([.nilFunc], 8)),
  (217, ([.nilFunc], 8)),
  (219, ([.nilFunc], 8)),
  (220, ([.nilFunc], 8)),
  (221, ([.nilFunc], 8)),
  (223, ([.nilFunc], 8)),
  (224, ([.nilFunc], 8)),
  (225, ([.nilFunc], 8)),
  (226, ([.nilFunc], 8)),
  (227, ([.nilFunc], 8)),
  (228, ([.nilFunc], 8)),
  (229, ([.map none], 8)),
  (230, ([.nilFunc], 8)),
  (231, ([.nilFunc], 8)),
  (232, ([.nilFunc], 8)),
  (233, ([.nilFunc], 8)),
  (234, ([.nilFunc], 8)),
  (235, ([.int .i64 0], 8)),
  (237, ([.nilFunc], 8)),
  (238, ([.nilFunc], 8)),
  (239, ([.nilFunc], 8)),
  (240, ([.nilFunc], 8)),
  (241, ([.nilFunc], 8)),
  (242, ([.nilFunc], 8)),
  (243, ([.nilFunc], 8)),
  (245, ([.nilFunc], 8)),
  (246, ([.nilFunc], 8)),
  (247, ([.nilFunc], 8)),
  (248, ([.nilFunc], 8)),
  (249, ([.nilFunc], 8)),
  (250, ([.nilFunc], 8)),
  (252, ([.nilFunc], 8)),
  (253, ([.nilFunc], 8)),
  (254, ([.nilFunc], 8)),
  (255, ([.nilFunc], 8)),
  (256, ([.pointer none], 8)),
  (257, ([.nilFunc], 8)),
  (258, ([.nilFunc], 8)),
  (259, ([.nilFunc], 8)),
  (260, ([.nilFunc], 8)),
  (261, ([.int .u64 0], 8)),
  (262, ([.nilFunc], 8)),
  (263, ([.nilFunc], 8)),
  (264, ([.nilFunc], 8)),
  (265, ([.pointer none], 8)),
  (266, ([.nilFunc], 8)),
  (268, ([.nilFunc], 8)),
  (270, ([.int .u8 0, .int .u8 0], 2)),
  (271, ([.int .u8 0, .int .u8 0], 2)),
  (272, ([.int .u8 0, .int .u8 0, .int .u8 0, .int .u8 0, .int .u8 0, .int .u8 0, .int .u8 0, .int .u8 0, .int .u8 0, .int .u8 0, .int .u8 0, .int .u8 0, .int .u8 0, .int .u8 0, .int .u8 0, .int .u8 0, .int .u8 0, .int .u8 0, .int .u8 0, .int .u8 0, .int .u8 0, .int .u8 0, .int .u8 0, .int .u8 0, .int .u8 0, .int .u8 0, .int .u8 0, .int .u8 0, .int .u8 0, .int .u8 0, .int .u8 0, .int .u8 0], 32)),
  (273, ([.nilFunc], 8)),
  (274, ([.int .u8 0, .int .u8 0, .int .u8 0, .int .u8 0, .int .u8 0, .int .u8 0, .int .u8 0, .int .u8 0, .int .u8 0, .int .u8 0, .int .u8 0, .int .u8 0, .int .u8 0, .int .u8 0, .int .u8 0, .int .u8 0, .int .u8 0, .int .u8 0, .int .u8 0, .int .u8 0, .int .u8 0, .int .u8 0, .int .u8 0, .int .u8 0, .int .u8 0, .int .u8 0, .int .u8 0, .int .u8 0, .int .u8 0, .int .u8 0, .int .u8 0, .int .u8 0], 32)),
  (275, ([.int .u8 0, .int .u8 0, .int .u8 0, .int .u8 0, .int .u8 0, .int .u8 0, .int .u8 0, .int .u8 0, .int .u8 0, .int .u8 0, .int .u8 0, .int .u8 0, .int .u8 0, .int .u8 0, .int .u8 0, .int .u8 0, .int .u8 0, .int .u8 0, .int .u8 0, .int .u8 0, .int .u8 0, .int .u8 0, .int .u8 0, .int .u8 0], 24)),
  (276, ([.nilFunc], 8)),
  (278, ([.nilFunc], 8)),
  (279, ([.pointer none], 8)),
  (281, ([.nilFunc], 8)),
  (282, ([.int .u64 0, .int .u64 0, .int .u64 0, .int .u64 0, .int .u64 0, .int .u64 0, .int .u64 0, .int .u64 0, .int .u64 0, .int .u64 0, .int .u64 0, .int .u64 0, .int .u64 0, .int .u64 0, .int .u64 0, .int .u64 0, .int .u64 0, .int .u64 0, .int .u64 0, .int .u64 0], 160)),
  (284, ([.int .u8 0, .int .u8 0, .int .u8 0, .int .u8 0, .int .u8 0, .int .u8 0, .int .u8 0, .int .u8 0, .int .u8 0, .int .u8 0, .int .u8 0, .int .u8 0, .int .u8 0, .int .u8 0, .int .u8 0, .int .u8 0, .int .u8 0, .int .u8 0, .int .u8 0, .int .u8 0, .int .u8 0, .int .u8 0, .int .u8 0, .int .u8 0, .int .u8 0, .int .u8 0, .int .u8 0, .int .u8 0, .int .u8 0, .int .u8 0, .int .u8 0, .int .u8 0, .int .u8 0, .int .u8 0, .int .u8 0, .int .u8 0, .int .u8 0, .int .u8 0, .int .u8 0, .int .u8 0, .int .u8 0, .int .u8 0, .int .u8 0, .int .u8 0, .int .u8 0, .int .u8 0, .int .u8 0, .int .u8 0, .int .u8 0, .int .u8 0, .int .u8 0, .int .u8 0, .int .u8 0, .int .u8 0, .int .u8 0, .int .u8 0, .int .u8 0, .int .u8 0, .int .u8 0, .int .u8 0, .int .u8 0, .int .u8 0, .int .u8 0, .int .u8 0], 64)),
  (285, ([.pointer none, .pointer none, .pointer none, .string ByteArray.empty], 40)),
  (286, ([.pointer none, .pointer none, .pointer none, .string ByteArray.empty], 40)),
  (287, ([], 0)),
  (288, ([], 0)),
  (289, ([], 0)),
  (290, ([.int .u8 0], 1)),
  (291, ([.int .u8 0], 1)),
  (292, ([.nilFunc], 8)),
  (293, ([.int .i32 0], 4)),
  (294, ([.int .i32 0], 4)),
  (295, ([.int .u64 0, .int .u64 0, .int .u32 0, .int .u8 0, .int .u8 0, .int .u8 0, .int .u8 0, .nilFunc, .pointer none, .int .i32 0, .int .i32 0], 48)),
  (296, ([.int .u64 0, .int .u64 0, .int .u32 0, .int .u8 0, .int .u8 0, .int .u8 0, .int .u8 0, .nilFunc, .pointer none, .int .i32 0, .int .i32 0], 48))]
def fnL : List Nat := [3, 4, 5, 6, 7, 8, 9, 10, 11, 12, 13, 14, 15, 16, 17, 18, 19, 20, 21, 22, 23, 24, 25, 26, 27, 28, 29, 30, 31, 32, 33, 34, 35, 36, 37, 38, 39, 40, 41, 42, 43, 44, 45, 46, 47, 48, 49, 50, 51, 52, 53, 54, 55, 56, 57, 58, 59, 60, 61, 62, 63, 64, 65, 66, 67, 68, 69, 70, 71, 72, 73, 74, 75, 76, 77, 78, 79, 80, 81, 82, 83, 84, 85, 86, 87, 88, 89, 90, 91, 92, 93, 94, 95, 96, 97, 98, 99, 100, 101, 102, 103, 104, 105, 106, 107, 108, 109, 110, 111, 112, 113, 114, 115, 116, 117, 118, 119, 120, 121, 122, 123, 124, 125, 126, 127, 128, 129, 130, 131, 132, 133, 134, 135, 136, 137, 138, 139, 140, 141, 142, 143, 144, 145, 146, 147, 148, 149, 150, 151, 152, 153, 154, 155, 156, 157, 158, 159, 160, 161, 162, 163, 164, 165, 166, 167, 168, 169, 170, 171, 172, 173, 174, 175, 176, 177, 178, 179, 180, 181, 182, 183, 184, 185, 186, 187, 188, 189, 190, 191, 192, 193, 194, 195, 196, 197, 198, 199, 200, 201, 202, 203, 204, 205, 206, 207, 208, 209, 210, 211, 212, 213, 214, 215, 216, 217, 218, 219, 220, 221, 222, 223, 224, 225, 226, 227, 228, 229, 230, 231, 232, 233, 234, 235, 236, 237, 238, 239, 240, 241, 242, 243, 244, 245, 246, 247, 248, 249, 250, 251, 252, 253, 254, 255, 256, 257, 258, 259, 261, 262, 263, 264, 265, 266, 267, 268, 269, 270, 271, 272, 273, 275, 276, 277, 278, 279, 280, 281, 282, 283, 284, 286, 287, 288, 289, 290, 291, 292, 293, 294, 295, 296, 297, 298, 299]
set_option maxRecDepth 100000 in
def undB : BT TypeDesc := (.node (.node (.node (.node (.node (.node (.node (.node (.node .leaf 1 (.func #[] #[] false) .leaf) 2 (.int .i64) .leaf) 3 (.int .i64) (.node .leaf 4 (.bool) .leaf)) 5 (.int .u8) (.node (.node .leaf 6 (.int .u8) .leaf) 7 (.struct #[{ name := "x", type := 2, offset := 0, embedded := false, tag := "", pkgPath := "runtime", byteOffset := 0 }, { name := "y", type := 3, offset := 1, embedded := false, tag := "", pkgPath := "runtime", byteOffset := 8 }, { name := "signed", type := 4, offset := 2, embedded := false, tag := "", pkgPath := "runtime", byteOffset := 16 }, { name := "code", type := 6, offset := 3, embedded := false, tag := "", pkgPath := "runtime", byteOffset := 17 }]) (.node .leaf 8 (.struct #[{ name := "x", type := 2, offset := 0, embedded := false, tag := "", pkgPath := "runtime", byteOffset := 0 }, { name := "y", type := 3, offset := 1, embedded := false, tag := "", pkgPath := "runtime", byteOffset := 8 }, { name := "signed", type := 4, offset := 2, embedded := false, tag := "", pkgPath := "runtime", byteOffset := 16 }, { name := "code", type := 6, offset := 3, embedded := false, tag := "", pkgPath := "runtime", byteOffset := 17 }]) .leaf))) 9 (.string) (.node (.node (.node .leaf 10 (.string) .leaf) 11 (.string) (.node .leaf 12 (.int .u64) .leaf)) 13 (.struct #[{ name := "msg", type := 9, offset := 0, embedded := false, tag := "", pkgPath := "runtime", byteOffset := 0 }, { name := "addr", type := 12, offset := 1, embedded := false, tag := "", pkgPath := "runtime", byteOffset := 16 }]) (.node (.node .leaf 14 (.struct #[{ name := "msg", type := 9, offset := 0, embedded := false, tag := "", pkgPath := "runtime", byteOffset := 0 }, { name := "addr", type := 12, offset := 1, embedded := false, tag := "", pkgPath := "runtime", byteOffset := 16 }]) .leaf) 15 (.pointer 286) (.node .leaf 16 (.pointer 289) .leaf)))) 17 (.pointer 296) (.node (.node (.node (.node .leaf 18 (.struct #[{ name := "typ", type := 17, offset := 0, embedded := false, tag := "", pkgPath := "internal/runtime/maps", byteOffset := 0 }]) .leaf) 19 (.struct #[{ name := "typ", type := 17, offset := 0, embedded := false, tag := "", pkgPath := "internal/runtime/maps", byteOffset := 0 }]) (.node .leaf 21 (.int .i32) .leaf)) 22 (.func #[9] #[4] false) (.node (.node .leaf 23 (.slice 138) .leaf) 24 (.struct #[{ name := "Neg", type := 4, offset := 0, embedded := false, tag := "", pkgPath := "", byteOffset := 0 }, { name := "Num", type := 23, offset := 1, embedded := false, tag := "", pkgPath := "", byteOffset := 8 }, { name := "Den", type := 23, offset := 2, embedded := false, tag := "", pkgPath := "", byteOffset := 32 }]) (.node .leaf 25 (.struct #[{ name := "Neg", type := 4, offset := 0, embedded := false, tag := "", pkgPath := "", byteOffset := 0 }, { name := "Num", type := 23, offset := 1, embedded := false, tag := "", pkgPath := "", byteOffset := 8 }, { name := "Den", type := 23, offset := 2, embedded := false, tag := "", pkgPath := "", byteOffset := 32 }]) .leaf))) 26 (.slice 28) (.node (.node (.node .leaf 27 (.struct #[{ name := "Op", type := 3, offset := 0, embedded := false, tag := "", pkgPath := "", byteOffset := 0 }, { name := "Arg", type := 3, offset := 1, embedded := false, tag := "", pkgPath := "", byteOffset := 8 }, { name := "Num", type := 25, offset := 2, embedded := false, tag := "", pkgPath := "", byteOffset := 16 }, { name := "Name", type := 9, offset := 5, embedded := false, tag := "", pkgPath := "", byteOffset := 72 }, { name := "Kids", type := 26, offset := 6, embedded := false, tag := "", pkgPath := "", byteOffset := 88 }]) .leaf) 28 (.struct #[{ name := "Op", type := 3, offset := 0, embedded := false, tag := "", pkgPath := "", byteOffset := 0 }, { name := "Arg", type := 3, offset := 1, embedded := false, tag := "", pkgPath := "", byteOffset := 8 }, { name := "Num", type := 25, offset := 2, embedded := false, tag := "", pkgPath := "", byteOffset := 16 }, { name := "Name", type := 9, offset := 5, embedded := false, tag := "", pkgPath := "", byteOffset := 72 }, { name := "Kids", type := 26, offset := 6, embedded := false, tag := "", pkgPath := "", byteOffset := 88 }]) (.node .leaf 29 (.int .i64) .leaf)) 31 (.func #[9] #[28, 3, 29] false) (.node (.node .leaf 32 (.func #[] #[4] false) .leaf) 33 (.func #[28, 29, 28, 29] #[4] false) (.node .leaf 34 (.func #[28] #[4] false) .leaf))))) 36 (.func #[28] #[9, 29] false) (.node (.node (.node (.node (.node (.node .leaf 37 (.func #[28] #[3] false) .leaf) 38 (.func #[28, 28] #[4] false) .leaf) 40 (.func #[28, 9, 9] #[28, 29] false) (.node .leaf 41 (.func #[28, 9, 9] #[4] false) .leaf)) 42 (.slice 96) (.node (.node .leaf 43 (.func #[28, 42] #[28, 29] false) .leaf) 44 (.func #[28, 42] #[4] false) (.node .leaf 46 (.func #[28, 28] #[4, 29] false) .leaf))) 48 (.func #[28] #[3, 29] false) (.node (.node (.node .leaf 49 (.slice 9) .leaf) 51 (.func #[28] #[49, 29] false) (.node .leaf 52 (.func #[28] #[4, 29] false) .leaf)) 53 (.func #[49, 49] #[4] false) (.node (.node .leaf 55 (.func #[28] #[28, 28, 28, 29] false) .leaf) 56 (.func #[28, 9] #[4, 29] false) (.node .leaf 57 (.func #[28, 9] #[4] false) .leaf)))) 58 (.func #[3, 28, 28] #[28] false) (.node (.node (.node (.node .leaf 59 (.func #[28, 28, 9] #[4] false) .leaf) 60 (.func #[] #[49] false) (.node .leaf 61 (.slice 115) .leaf)) 63 (.func #[9, 4] #[61, 3] false) (.node (.node .leaf 64 (.pointer 122) .leaf) 65 (.func #[61, 3] #[64] false) (.node .leaf 66 (.struct #[{ name := "Err", type := 29, offset := 0, embedded := false, tag := "", pkgPath := "", byteOffset := 0 }, { name := "At", type := 3, offset := 1, embedded := false, tag := "", pkgPath := "", byteOffset := 8 }]) .leaf))) 67 (.struct #[{ name := "Err", type := 29, offset := 0, embedded := false, tag := "", pkgPath := "", byteOffset := 0 }, { name := "At", type := 3, offset := 1, embedded := false, tag := "", pkgPath := "", byteOffset := 8 }]) (.node (.node (.node .leaf 68 (.func #[1] #[67] false) .leaf) 69 (.func #[] #[28] false) (.node .leaf 70 (.func #[] #[67] false) .leaf)) 71 (.func #[28] #[28, 29] false) (.node (.node .leaf 72 (.slice 78) .leaf) 74 (.func #[9, 4] #[72, 3, 4] false) (.node .leaf 75 (.pointer 82) .leaf)))))) 76 (.func #[72, 3] #[75] false) (.node (.node (.node (.node (.node (.node (.node .leaf 77 (.struct #[{ name := "Kind", type := 3, offset := 0, embedded := false, tag := "", pkgPath := "", byteOffset := 0 }, { name := "At", type := 3, offset := 1, embedded := false, tag := "", pkgPath := "", byteOffset := 8 }, { name := "Text", type := 9, offset := 2, embedded := false, tag := "", pkgPath := "", byteOffset := 16 }]) .leaf) 78 (.struct #[{ name := "Kind", type := 3, offset := 0, embedded := false, tag := "", pkgPath := "", byteOffset := 0 }, { name := "At", type := 3, offset := 1, embedded := false, tag := "", pkgPath := "", byteOffset := 8 }, { name := "Text", type := 9, offset := 2, embedded := false, tag := "", pkgPath := "", byteOffset := 16 }]) .leaf) 79 (.func #[] #[78] false) (.node .leaf 80 (.slice 136) .leaf)) 81 (.struct #[{ name := "L", type := 72, offset := 0, embedded := false, tag := "", pkgPath := "", byteOffset := 0 }, { name := "I", type := 3, offset := 1, embedded := false, tag := "", pkgPath := "", byteOffset := 24 }, { name := "End", type := 3, offset := 2, embedded := false, tag := "", pkgPath := "", byteOffset := 32 }, { name := "Bad", type := 3, offset := 3, embedded := false, tag := "", pkgPath := "", byteOffset := 40 }, { name := "Uses", type := 80, offset := 4, embedded := false, tag := "", pkgPath := "", byteOffset := 48 }]) (.node (.node .leaf 82 (.struct #[{ name := "L", type := 72, offset := 0, embedded := false, tag := "", pkgPath := "", byteOffset := 0 }, { name := "I", type := 3, offset := 1, embedded := false, tag := "", pkgPath := "", byteOffset := 24 }, { name := "End", type := 3, offset := 2, embedded := false, tag := "", pkgPath := "", byteOffset := 32 }, { name := "Bad", type := 3, offset := 3, embedded := false, tag := "", pkgPath := "", byteOffset := 40 }, { name := "Uses", type := 80, offset := 4, embedded := false, tag := "", pkgPath := "", byteOffset := 48 }]) .leaf) 83 (.func #[72, 80] #[3, 29] false) (.node .leaf 84 (.func #[25] #[4] false) .leaf))) 85 (.func #[28] #[9] false) (.node (.node (.node .leaf 86 (.func #[89] #[9] false) .leaf) 87 (.slice 138) (.node .leaf 88 (.struct #[{ name := "Neg", type := 4, offset := 0, embedded := false, tag := "", pkgPath := "", byteOffset := 0 }, { name := "N", type := 87, offset := 1, embedded := false, tag := "", pkgPath := "", byteOffset := 8 }, { name := "D", type := 87, offset := 2, embedded := false, tag := "", pkgPath := "", byteOffset := 32 }]) .leaf)) 89 (.struct #[{ name := "Neg", type := 4, offset := 0, embedded := false, tag := "", pkgPath := "", byteOffset := 0 }, { name := "N", type := 87, offset := 1, embedded := false, tag := "", pkgPath := "", byteOffset := 8 }, { name := "D", type := 87, offset := 2, embedded := false, tag := "", pkgPath := "", byteOffset := 32 }]) (.node (.node .leaf 90 (.func #[25] #[89] false) .leaf) 91 (.func #[25, 25] #[4] false) (.node .leaf 92 (.func #[28, 93] #[28] false) .leaf)))) 93 (.func #[28] #[28, 4] false) (.node (.node (.node (.node .leaf 94 (.func #[28, 42] #[28] false) .leaf) 95 (.struct #[{ name := "Name", type := 9, offset := 0, embedded := false, tag := "", pkgPath := "", byteOffset := 0 }, { name := "E", type := 28, offset := 1, embedded := false, tag := "", pkgPath := "", byteOffset := 16 }]) (.node .leaf 96 (.struct #[{ name := "Name", type := 9, offset := 0, embedded := false, tag := "", pkgPath := "", byteOffset := 0 }, { name := "E", type := 28, offset := 1, embedded := false, tag := "", pkgPath := "", byteOffset := 16 }]) .leaf)) 97 (.map 9 28) (.node (.node .leaf 99 (.func #[28, 3, 3] #[3] false) .leaf) 100 (.map 9 4) (.node .leaf 101 (.func #[34] #[] false) .leaf))) 102 (.func #[28] #[101] false) (.node (.node (.node .leaf 103 (.func #[105] #[49] false) .leaf) 104 (.func #[22] #[] false) (.node .leaf 105 (.func #[22] #[] false) .leaf)) 106 (.func #[100] #[105] false) (.node (.node .leaf 107 (.func #[28, 49] #[49] false) .leaf) 109 (.func #[28] #[28, 28, 28, 4] false) (.node .leaf 110 (.array 3 29) .leaf))))) 112 (.func #[28] #[4, 28, 28, 28] false) (.node (.node (.node (.node (.node (.node .leaf 113 (.func #[28, 9, 4] #[4] false) .leaf) 114 (.struct #[{ name := "Kind", type := 3, offset := 0, embedded := false, tag := "", pkgPath := "", byteOffset := 0 }, { name := "Text", type := 9, offset := 1, embedded := false, tag := "", pkgPath := "", byteOffset := 8 }, { name := "At", type := 3, offset := 2, embedded := false, tag := "", pkgPath := "", byteOffset := 24 }]) .leaf) 115 (.struct #[{ name := "Kind", type := 3, offset := 0, embedded := false, tag := "", pkgPath := "", byteOffset := 0 }, { name := "Text", type := 9, offset := 1, embedded := false, tag := "", pkgPath := "", byteOffset := 8 }, { name := "At", type := 3, offset := 2, embedded := false, tag := "", pkgPath := "", byteOffset := 24 }]) (.node .leaf 116 (.func #[9] #[3] false) .leaf)) 118 (.func #[9] #[3, 4] false) (.node (.node .leaf 119 (.func #[9, 9] #[4] false) .leaf) 120 (.slice 131) (.node .leaf 121 (.struct #[{ name := "tokens", type := 61, offset := 0, embedded := false, tag := "", pkgPath := "inequality/syntax", byteOffset := 0 }, { name := "next", type := 3, offset := 1, embedded := false, tag := "", pkgPath := "inequality/syntax", byteOffset := 24 }, { name := "end", type := 3, offset := 2, embedded := false, tag := "", pkgPath := "inequality/syntax", byteOffset := 32 }, { name := "counts", type := 120, offset := 3, embedded := false, tag := "", pkgPath := "inequality/syntax", byteOffset := 40 }]) .leaf))) 122 (.struct #[{ name := "tokens", type := 61, offset := 0, embedded := false, tag := "", pkgPath := "inequality/syntax", byteOffset := 0 }, { name := "next", type := 3, offset := 1, embedded := false, tag := "", pkgPath := "inequality/syntax", byteOffset := 24 }, { name := "end", type := 3, offset := 2, embedded := false, tag := "", pkgPath := "inequality/syntax", byteOffset := 32 }, { name := "counts", type := 120, offset := 3, embedded := false, tag := "", pkgPath := "inequality/syntax", byteOffset := 40 }]) (.node (.node (.node .leaf 123 (.func #[3, 3, 26] #[28] true) .leaf) 124 (.slice 67) (.node .leaf 126 (.func #[9, 9] #[9, 9, 4] false) .leaf)) 127 (.func #[9, 9] #[9] false) (.node (.node .leaf 129 (.func #[9] #[25, 29] false) .leaf) 130 (.struct #[{ name := "at", type := 3, offset := 0, embedded := false, tag := "", pkgPath := "inequality/syntax", byteOffset := 0 }, { name := "low", type := 3, offset := 1, embedded := false, tag := "", pkgPath := "inequality/syntax", byteOffset := 8 }, { name := "high", type := 3, offset := 2, embedded := false, tag := "", pkgPath := "inequality/syntax", byteOffset := 16 }, { name := "n", type := 3, offset := 3, embedded := false, tag := "", pkgPath := "inequality/syntax", byteOffset := 24 }]) (.node .leaf 131 (.struct #[{ name := "at", type := 3, offset := 0, embedded := false, tag := "", pkgPath := "inequality/syntax", byteOffset := 0 }, { name := "low", type := 3, offset := 1, embedded := false, tag := "", pkgPath := "inequality/syntax", byteOffset := 8 }, { name := "high", type := 3, offset := 2, embedded := false, tag := "", pkgPath := "inequality/syntax", byteOffset := 16 }, { name := "n", type := 3, offset := 3, embedded := false, tag := "", pkgPath := "inequality/syntax", byteOffset := 24 }]) .leaf)))) 132 (.func #[28] #[28] false) (.node (.node (.node (.node .leaf 133 (.func #[9, 3] #[3] false) .leaf) 134 (.func #[9, 3, 4] #[3] false) (.node .leaf 135 (.struct #[{ name := "T", type := 78, offset := 0, embedded := false, tag := "", pkgPath := "", byteOffset := 0 }, { name := "Root", type := 4, offset := 3, embedded := false, tag := "", pkgPath := "", byteOffset := 32 }]) .leaf)) 136 (.struct #[{ name := "T", type := 78, offset := 0, embedded := false, tag := "", pkgPath := "", byteOffset := 0 }, { name := "Root", type := 4, offset := 3, embedded := false, tag := "", pkgPath := "", byteOffset := 32 }]) (.node (.node .leaf 137 (.func #[89] #[25] false) .leaf) 138 (.int .u32) (.node .leaf 139 (.pointer 142) .leaf))) 140 (.slice 5) (.node (.node (.node .leaf 141 (.struct #[{ name := "addr", type := 139, offset := 0, embedded := false, tag := "", pkgPath := "strings", byteOffset := 0 }, { name := "buf", type := 140, offset := 1, embedded := false, tag := "", pkgPath := "strings", byteOffset := 8 }]) .leaf) 142 (.struct #[{ name := "addr", type := 139, offset := 0, embedded := false, tag := "", pkgPath := "strings", byteOffset := 0 }, { name := "buf", type := 140, offset := 1, embedded := false, tag := "", pkgPath := "strings", byteOffset := 8 }]) (.node .leaf 143 (.func #[139, 28] #[] false) .leaf)) 144 (.func #[] #[9] false) (.node (.node .leaf 145 (.func #[28, 3] #[9] false) .leaf) 146 (.func #[3] #[9] false) (.node .leaf 147 (.func #[87] #[9] false) .leaf))))))) 148 (.func #[23] #[87] false) (.node (.node (.node (.node (.node (.node (.node (.node .leaf 149 (.func #[150] #[87] false) .leaf) 150 (.int .u64) .leaf) 151 (.func #[4, 87, 87] #[89] false) (.node .leaf 152 (.func #[89, 89] #[3] false) .leaf)) 153 (.func #[25, 25] #[3, 29] false) (.node (.node .leaf 154 (.func #[26, 26, 38] #[4] false) .leaf) 155 (.func #[28, 34] #[4] false) (.node .leaf 156 (.func #[49] #[] false) .leaf))) 157 (.func #[49, 9] #[49] false) (.node (.node (.node .leaf 158 (.func #[3] #[4] false) .leaf) 159 (.func #[28, 3, 28] #[28] false) (.node .leaf 160 (.func #[3, 3, 28] #[28] false) .leaf)) 161 (.func #[5] #[4] false) (.node (.node .leaf 162 (.func #[] #[3] false) .leaf) 163 (.func #[9, 5] #[9] false) (.node .leaf 164 (.array 256 4) .leaf)))) 165 (.array 256 4) (.node (.node (.node (.node .leaf 167 (.func #[9] #[165, 4] false) .leaf) 168 (.func #[9, 169] #[9] false) (.node .leaf 169 (.pointer 165) .leaf)) 171 (.func #[9] #[9, 9] false) (.node (.node .leaf 172 (.slice 138) .leaf) 173 (.struct #[{ name := "Neg", type := 4, offset := 0, embedded := false, tag := "", pkgPath := "", byteOffset := 0 }, { name := "Num", type := 172, offset := 1, embedded := false, tag := "", pkgPath := "", byteOffset := 8 }, { name := "Den", type := 172, offset := 2, embedded := false, tag := "", pkgPath := "", byteOffset := 32 }]) (.node .leaf 174 (.struct #[{ name := "Neg", type := 4, offset := 0, embedded := false, tag := "", pkgPath := "", byteOffset := 0 }, { name := "Num", type := 172, offset := 1, embedded := false, tag := "", pkgPath := "", byteOffset := 8 }, { name := "Den", type := 172, offset := 2, embedded := false, tag := "", pkgPath := "", byteOffset := 32 }]) .leaf))) 175 (.func #[4, 172, 172] #[174] false) (.node (.node (.node .leaf 176 (.func #[9] #[172] false) .leaf) 177 (.func #[150] #[172] false) (.node .leaf 178 (.func #[3] #[172] false) .leaf)) 179 (.func #[] #[25, 29] false) (.node (.node .leaf 180 (.func #[25] #[25, 29] false) .leaf) 181 (.func #[89] #[25, 29] false) (.node .leaf 182 (.func #[9] #[87] false) .leaf))))) 183 (.func #[87, 3] #[87] false) (.node (.node (.node (.node (.node (.node .leaf 184 (.func #[89] #[4] false) .leaf) 185 (.func #[87] #[23] false) .leaf) 186 (.func #[25] #[9, 29] false) (.node .leaf 190 (.func #[9] #[3, 188] false) .leaf)) 191 (.func #[139, 28, 3] #[] false) (.node (.node .leaf 192 (.func #[139, 28, 3, 3] #[] false) .leaf) 193 (.pointer 5) (.node .leaf 194 (.func #[3] #[89] false) .leaf))) 196 (.func #[87, 138] #[87, 138] false) (.node (.node (.node .leaf 197 (.func #[87] #[87] false) .leaf) 198 (.func #[87, 87] #[87] false) (.node .leaf 200 (.func #[87, 87] #[87, 87] false) .leaf)) 201 (.func #[89] #[3] false) (.node (.node .leaf 202 (.func #[89, 89] #[89] false) .leaf) 204 (.func #[25] #[174, 4] false) (.node .leaf 205 (.func #[174] #[3] false) .leaf)))) 206 (.func #[3] #[3] false) (.node (.node (.node (.node .leaf 207 (.func #[3] #[3, 4] false) .leaf) 208 (.func #[23] #[172] false) (.node .leaf 209 (.func #[49, 105] #[49] false) .leaf)) 210 (.func #[49, 3, 3, 3] #[] false) (.node (.node .leaf 211 (.func #[212] #[3] false) .leaf) 212 (.int .u64) (.node .leaf 213 (.func #[28] #[174, 4] false) .leaf))) 215 (.func #[28] #[89, 4] false) (.node (.node (.node .leaf 216 (.func #[3, 3] #[3] false) .leaf) 217 (.func #[9, 9] #[3] false) (.node .leaf 219 (.func #[9] #[21, 3] false) .leaf)) 220 (.func #[9, 21] #[4] false) (.node (.node .leaf 221 (.func #[172] #[172] false) .leaf) 223 (.func #[172] #[172, 172] false) (.node .leaf 224 (.func #[23] #[23] false) .leaf)))))) 225 (.func #[25, 226] #[25, 29] false) (.node (.node (.node (.node (.node (.node (.node .leaf 226 (.func #[174] #[174] false) .leaf) 227 (.func #[4] #[3] false) .leaf) 228 (.func #[172] #[9] false) (.node .leaf 229 (.map 3 9) .leaf)) 230 (.func #[87, 87] #[3] false) (.node (.node .leaf 231 (.func #[87, 87] #[138] false) .leaf) 232 (.func #[89] #[89] false) (.node .leaf 233 (.func #[172] #[3] false) .leaf))) 234 (.func #[49, 3, 3] #[] false) (.node (.node (.node .leaf 235 (.int .i64) .leaf) 237 (.func #[49, 3, 3] #[3, 235] false) (.node .leaf 238 (.func #[49, 3, 3] #[4] false) .leaf)) 239 (.func #[49, 3, 3, 3] #[3] false) (.node (.node .leaf 240 (.func #[49, 3, 3, 3] #[3, 4] false) .leaf) 241 (.func #[138] #[3] false) (.node .leaf 242 (.func #[150] #[3] false) .leaf)))) 243 (.func #[] #[174] false) (.node (.node (.node (.node .leaf 245 (.func #[3] #[115, 4] false) .leaf) 246 (.func #[3] #[26] false) (.node .leaf 247 (.func #[9] #[] false) .leaf)) 248 (.func #[] #[25] false) (.node (.node .leaf 249 (.func #[9, 5] #[3] false) .leaf) 250 (.func #[9, 21] #[3] false) (.node .leaf 252 (.func #[138] #[172, 138] false) .leaf))) 253 (.func #[23, 172] #[138] false) (.node (.node (.node .leaf 254 (.func #[9] #[28] false) .leaf) 255 (.func #[140] #[] false) (.node .leaf 257 (.func #[256] #[256] false) .leaf)) 258 (.func #[2, 3] #[9] false) (.node (.node .leaf 259 (.func #[87, 87, 150] #[4] false) .leaf) 260 (.func #[] #[87] false) (.node .leaf 261 (.int .u64) .leaf))))) 262 (.func #[3] #[212] false) (.node (.node (.node (.node (.node .leaf 263 (.func #[] #[150] false) .leaf) 264 (.func #[49, 3, 265] #[3] false) (.node .leaf 265 (.pointer 3) .leaf)) 266 (.func #[49, 3, 3, 3, 265] #[3] false) (.node (.node .leaf 268 (.func #[9] #[138, 138] false) .leaf) 269 (.array 256 5) (.node .leaf 270 (.struct #[{ name := "lo", type := 5, offset := 0, embedded := false, tag := "", pkgPath := "unicode/utf8", byteOffset := 0 }, { name := "hi", type := 5, offset := 1, embedded := false, tag := "", pkgPath := "unicode/utf8", byteOffset := 1 }]) .leaf))) 271 (.struct #[{ name := "lo", type := 5, offset := 0, embedded := false, tag := "", pkgPath := "unicode/utf8", byteOffset := 0 }, { name := "hi", type := 5, offset := 1, embedded := false, tag := "", pkgPath := "unicode/utf8", byteOffset := 1 }]) (.node (.node (.node .leaf 272 (.array 16 271) .leaf) 273 (.func #[21] #[4] false) (.node .leaf 274 (.array 32 5) .leaf)) 275 (.array 24 5) (.node (.node .leaf 276 (.func #[140, 150] #[] false) .leaf) 278 (.func #[140, 150, 3, 4, 4] #[140, 9] false) (.node .leaf 279 (.pointer 261) .leaf)))) 281 (.func #[49, 3, 3, 265] #[3, 3] false) (.node (.node (.node (.node .leaf 282 (.array 20 150) .leaf) 283 (.array 65 5) (.node .leaf 284 (.array 64 5) .leaf)) 285 (.struct #[{ name := "_interface", type := 17, offset := 0, embedded := false, tag := "", pkgPath := "runtime", byteOffset := 0 }, { name := "concrete", type := 17, offset := 1, embedded := false, tag := "", pkgPath := "runtime", byteOffset := 8 }, { name := "asserted", type := 17, offset := 2, embedded := false, tag := "", pkgPath := "runtime", byteOffset := 16 }, { name := "missingMethod", type := 9, offset := 3, embedded := false, tag := "", pkgPath := "runtime", byteOffset := 24 }]) (.node (.node .leaf 286 (.struct #[{ name := "_interface", type := 17, offset := 0, embedded := false, tag := "", pkgPath := "runtime", byteOffset := 0 }, { name := "concrete", type := 17, offset := 1, embedded := false, tag := "", pkgPath := "runtime", byteOffset := 8 }, { name := "asserted", type := 17, offset := 2, embedded := false, tag := "", pkgPath := "runtime", byteOffset := 16 }, { name := "missingMethod", type := 9, offset := 3, embedded := false, tag := "", pkgPath := "runtime", byteOffset := 24 }]) .leaf) 287 (.array 0 16) (.node .leaf 288 (.struct #[{ name := "_", type := 287, offset := 0, embedded := false, tag := "", pkgPath := "runtime", byteOffset := 0 }]) .leaf))) 289 (.struct #[{ name := "_", type := 287, offset := 0, embedded := false, tag := "", pkgPath := "runtime", byteOffset := 0 }]) (.node (.node (.node .leaf 290 (.int .u8) .leaf) 291 (.int .u8) (.node .leaf 292 (.func #[256, 256] #[4] false) .leaf)) 293 (.int .i32) (.node (.node .leaf 294 (.int .i32) .leaf) 295 (.struct #[{ name := "Size_", type := 12, offset := 0, embedded := false, tag := "", pkgPath := "", byteOffset := 0 }, { name := "PtrBytes", type := 12, offset := 1, embedded := false, tag := "", pkgPath := "", byteOffset := 8 }, { name := "Hash", type := 138, offset := 2, embedded := false, tag := "", pkgPath := "", byteOffset := 16 }, { name := "TFlag", type := 290, offset := 3, embedded := false, tag := "", pkgPath := "", byteOffset := 20 }, { name := "Align_", type := 5, offset := 4, embedded := false, tag := "", pkgPath := "", byteOffset := 21 }, { name := "FieldAlign_", type := 5, offset := 5, embedded := false, tag := "", pkgPath := "", byteOffset := 22 }, { name := "Kind_", type := 291, offset := 6, embedded := false, tag := "", pkgPath := "", byteOffset := 23 }, { name := "Equal", type := 292, offset := 7, embedded := false, tag := "", pkgPath := "", byteOffset := 24 }, { name := "GCData", type := 193, offset := 8, embedded := false, tag := "", pkgPath := "", byteOffset := 32 }, { name := "Str", type := 293, offset := 9, embedded := false, tag := "", pkgPath := "", byteOffset := 40 }, { name := "PtrToThis", type := 294, offset := 10, embedded := false, tag := "", pkgPath := "", byteOffset := 44 }]) (.node .leaf 296 (.struct #[{ name := "Size_", type := 12, offset := 0, embedded := false, tag := "", pkgPath := "", byteOffset := 0 }, { name := "PtrBytes", type := 12, offset := 1, embedded := false, tag := "", pkgPath := "", byteOffset := 8 }, { name := "Hash", type := 138, offset := 2, embedded := false, tag := "", pkgPath := "", byteOffset := 16 }, { name := "TFlag", type := 290, offset := 3, embedded := false, tag := "", pkgPath := "", byteOffset := 20 }, { name := "Align_", type := 5, offset := 4, embedded := false, tag := "", pkgPath := "", byteOffset := 21 }, { name := "FieldAlign_", type := 5, offset := 5, embedded := false, tag := "", pkgPath := "", byteOffset := 22 }, { name := "Kind_", type := 291, offset := 6, embedded := false, tag := "", pkgPath := "", byteOffset := 23 }, { name := "Equal", type := 292, offset := 7, embedded := false, tag := "", pkgPath := "", byteOffset := 24 }, { name := "GCData", type := 193, offset := 8, embedded := false, tag := "", pkgPath := "", byteOffset := 32 }, { name := "Str", type := 293, offset := 9, embedded := false, tag := "", pkgPath := "", byteOffset := 40 }, { name := "PtrToThis", type := 294, offset := 10, embedded := false, tag := "", pkgPath := "", byteOffset := 44 }]) .leaf))))))))
set_option maxRecDepth 100000 in
def infB : BT (List Value × Nat) := (.node (.node (.node (.node (.node (.node (.node (.node (.node .leaf 1 ([.nilFunc], 8) .leaf) 2 ([.int .i64 0], 8) .leaf) 3 ([.int .i64 0], 8) (.node .leaf 4 ([.bool false], 1) .leaf)) 5 ([.int .u8 0], 1) (.node (.node .leaf 6 ([.int .u8 0], 1) .leaf) 7 ([.int .i64 0, .int .i64 0, .bool false, .int .u8 0], 24) (.node .leaf 8 ([.int .i64 0, .int .i64 0, .bool false, .int .u8 0], 24) .leaf))) 9 ([.string ByteArray.empty], 16) (.node (.node (.node .leaf 10 ([.string ByteArray.empty], 16) .leaf) 11 ([.string ByteArray.empty], 16) (.node .leaf 12 ([.int .u64 0], 8) .leaf)) 13 ([.string ByteArray.empty, .int .u64 0], 24) (.node (.node .leaf 14 ([.string ByteArray.empty, .int .u64 0], 24) .leaf) 15 ([.pointer none], 8) (.node .leaf 16 ([.pointer none], 8) .leaf)))) 17 ([.pointer none], 8) (.node (.node (.node (.node .leaf 18 ([.pointer none], 8) .leaf) 19 ([.pointer none], 8) (.node .leaf 21 ([.int .i32 0], 4) .leaf)) 22 ([.nilFunc], 8) (.node (.node .leaf 23 ([.slice none 0 0], 24) .leaf) 24 ([.bool false, .slice none 0 0, .slice none 0 0], 56) (.node .leaf 25 ([.bool false, .slice none 0 0, .slice none 0 0], 56) .leaf))) 26 ([.slice none 0 0], 24) (.node (.node (.node .leaf 27 ([.int .i64 0, .int .i64 0, .bool false, .slice none 0 0, .slice none 0 0, .string ByteArray.empty, .slice none 0 0], 112) .leaf) 28 ([.int .i64 0, .int .i64 0, .bool false, .slice none 0 0, .slice none 0 0, .string ByteArray.empty, .slice none 0 0], 112) (.node .leaf 29 ([.int .i64 0], 8) .leaf)) 31 ([.nilFunc], 8) (.node (.node .leaf 32 ([.nilFunc], 8) .leaf) 33 ([.nilFunc], 8) (.node .leaf 34 ([.nilFunc], 8) .leaf))))) 36 ([.nilFunc], 8) (.node (.node (.node (.node (.node .leaf 37 ([.nilFunc], 8) .leaf) 38 ([.nilFunc], 8) (.node .leaf 40 ([.nilFunc], 8) .leaf)) 41 ([.nilFunc], 8) (.node (.node .leaf 42 ([.slice none 0 0], 24) .leaf) 43 ([.nilFunc], 8) (.node .leaf 44 ([.nilFunc], 8) .leaf))) 46 ([.nilFunc], 8) (.node (.node (.node .leaf 48 ([.nilFunc], 8) .leaf) 49 ([.slice none 0 0], 24) (.node .leaf 51 ([.nilFunc], 8) .leaf)) 52 ([.nilFunc], 8) (.node (.node .leaf 53 ([.nilFunc], 8) .leaf) 55 ([.nilFunc], 8) (.node .leaf 56 ([.nilFunc], 8) .leaf)))) 57 ([.nilFunc], 8) (.node (.node (.node (.node .leaf 58 ([.nilFunc], 8) .leaf) 59 ([.nilFunc], 8) (.node .leaf 60 ([.nilFunc], 8) .leaf)) 61 ([.slice none 0 0], 24) (.node (.node .leaf 63 ([.nilFunc], 8) .leaf) 64 ([.pointer none], 8) (.node .leaf 65 ([.nilFunc], 8) .leaf))) 66 ([.int .i64 0, .int .i64 0], 16) (.node (.node (.node .leaf 67 ([.int .i64 0, .int .i64 0], 16) .leaf) 68 ([.nilFunc], 8) (.node .leaf 69 ([.nilFunc], 8) .leaf)) 70 ([.nilFunc], 8) (.node (.node .leaf 71 ([.nilFunc], 8) .leaf) 72 ([.slice none 0 0], 24) (.node .leaf 74 ([.nilFunc], 8) .leaf)))))) 75 ([.pointer none], 8) (.node (.node (.node (.node (.node (.node (.node .leaf 76 ([.nilFunc], 8) .leaf) 77 ([.int .i64 0, .int .i64 0, .string ByteArray.empty], 32) .leaf) 78 ([.int .i64 0, .int .i64 0, .string ByteArray.empty], 32) (.node .leaf 79 ([.nilFunc], 8) .leaf)) 80 ([.slice none 0 0], 24) (.node (.node .leaf 81 ([.slice none 0 0, .int .i64 0, .int .i64 0, .int .i64 0, .slice none 0 0], 72) .leaf) 82 ([.slice none 0 0, .int .i64 0, .int .i64 0, .int .i64 0, .slice none 0 0], 72) (.node .leaf 83 ([.nilFunc], 8) .leaf))) 84 ([.nilFunc], 8) (.node (.node (.node .leaf 85 ([.nilFunc], 8) .leaf) 86 ([.nilFunc], 8) (.node .leaf 87 ([.slice none 0 0], 24) .leaf)) 88 ([.bool false, .slice none 0 0, .slice none 0 0], 56) (.node (.node .leaf 89 ([.bool false, .slice none 0 0, .slice none 0 0], 56) .leaf) 90 ([.nilFunc], 8) (.node .leaf 91 ([.nilFunc], 8) .leaf)))) 92 ([.nilFunc], 8) (.node (.node (.node (.node .leaf 93 ([.nilFunc], 8) .leaf) 94 ([.nilFunc], 8) (.node .leaf 95 ([.string ByteArray.empty, .int .i64 0, .int .i64 0, .bool false, .slice none 0 0, .slice none 0 0, .string ByteArray.empty, .slice none 0 0], 128) .leaf)) 96 ([.string ByteArray.empty, .int .i64 0, .int .i64 0, .bool false, .slice none 0 0, .slice none 0 0, .string ByteArray.empty, .slice none 0 0], 128) (.node (.node .leaf 97 ([.map none], 8) .leaf) 99 ([.nilFunc], 8) (.node .leaf 100 ([.map none], 8) .leaf))) 101 ([.nilFunc], 8) (.node (.node (.node .leaf 102 ([.nilFunc], 8) .leaf) 103 ([.nilFunc], 8) (.node .leaf 104 ([.nilFunc], 8) .leaf)) 105 ([.nilFunc], 8) (.node (.node .leaf 106 ([.nilFunc], 8) .leaf) 107 ([.nilFunc], 8) (.node .leaf 109 ([.nilFunc], 8) .leaf))))) 110 ([.int .i64 0, .int .i64 0, .int .i64 0], 24) (.node (.node (.node (.node (.node .leaf 112 ([.nilFunc], 8) .leaf) 113 ([.nilFunc], 8) (.node .leaf 114 ([.int .i64 0, .string ByteArray.empty, .int .i64 0], 32) .leaf)) 115 ([.int .i64 0, .string ByteArray.empty, .int .i64 0], 32) (.node (.node .leaf 116 ([.nilFunc], 8) .leaf) 118 ([.nilFunc], 8) (.node .leaf 119 ([.nilFunc], 8) .leaf))) 120 ([.slice none 0 0], 24) (.node (.node (.node .leaf 121 ([.slice none 0 0, .int .i64 0, .int .i64 0, .slice none 0 0], 64) .leaf) 122 ([.slice none 0 0, .int .i64 0, .int .i64 0, .slice none 0 0], 64) (.node .leaf 123 ([.nilFunc], 8) .leaf)) 124 ([.slice none 0 0], 24) (.node (.node .leaf 126 ([.nilFunc], 8) .leaf) 127 ([.nilFunc], 8) (.node .leaf 129 ([.nilFunc], 8) .leaf)))) 130 ([.int .i64 0, .int .i64 0, .int .i64 0, .int .i64 0], 32) (.node (.node (.node (.node .leaf 131 ([.int .i64 0, .int .i64 0, .int .i64 0, .int .i64 0], 32) .leaf) 132 ([.nilFunc], 8) (.node .leaf 133 ([.nilFunc], 8) .leaf)) 134 ([.nilFunc], 8) (.node (.node .leaf 135 ([.int .i64 0, .int .i64 0, .string ByteArray.empty, .bool false], 40) .leaf) 136 ([.int .i64 0, .int .i64 0, .string ByteArray.empty, .bool false], 40) (.node .leaf 137 ([.nilFunc], 8) .leaf))) 138 ([.int .u32 0], 4) (.node (.node (.node .leaf 139 ([.pointer none], 8) .leaf) 140 ([.slice none 0 0], 24) (.node .leaf 141 ([.pointer none, .slice none 0 0], 32) .leaf)) 142 ([.pointer none, .slice none 0 0], 32) (.node (.node .leaf 143 ([.nilFunc], 8) .leaf) 144 ([.nilFunc], 8) (.node .leaf 145 ([.nilFunc], 8) .leaf))))))) 146 ([.nilFunc], 8) (.node (.node (.node (.node (.node (.node (.node (.node .leaf 147 ([.nilFunc], 8) .leaf) 148 ([.nilFunc], 8) .leaf) 149 ([.nilFunc], 8) (.node .leaf 150 ([.int .u64 0], 8) .leaf)) 151 ([.nilFunc], 8) (.node (.node .leaf 152 ([.nilFunc], 8) .leaf) 153 ([.nilFunc], 8) (.node .leaf 154 ([.nilFunc], 8) .leaf))) 155 ([.nilFunc], 8) (.node (.node (.node .leaf 156 ([.nilFunc], 8) .leaf) 157 ([.nilFunc], 8) (.node .leaf 158 ([.nilFunc], 8) .leaf)) 159 ([.nilFunc], 8) (.node (.node .leaf 160 ([.nilFunc], 8) .leaf) 161 ([.nilFunc], 8) (.node .leaf 162 ([.nilFunc], 8) .leaf)))) 163 ([.nilFunc], 8) (.node (.node (.node (.node .leaf 167 ([.nilFunc], 8) .leaf) 168 ([.nilFunc], 8) (.node .leaf 169 ([.pointer none], 8) .leaf)) 171 ([.nilFunc], 8) (.node (.node .leaf 172 ([.slice none 0 0], 24) .leaf) 173 ([.bool false, .slice none 0 0, .slice none 0 0], 56) (.node .leaf 174 ([.bool false, .slice none 0 0, .slice none 0 0], 56) .leaf))) 175 ([.nilFunc], 8) (.node (.node (.node .leaf 176 ([.nilFunc], 8) .leaf) 177 ([.nilFunc], 8) (.node .leaf 178 ([.nilFunc], 8) .leaf)) 179 ([.nilFunc], 8) (.node (.node .leaf 180 ([.nilFunc], 8) .leaf) 181 ([.nilFunc], 8) (.node .leaf 182 ([.nilFunc], 8) .leaf))))) 183 ([.nilFunc], 8) (.node (.node (.node (.node (.node .leaf 184 ([.nilFunc], 8) .leaf) 185 ([.nilFunc], 8) (.node .leaf 186 ([.nilFunc], 8) .leaf)) 190 ([.nilFunc], 8) (.node (.node .leaf 191 ([.nilFunc], 8) .leaf) 192 ([.nilFunc], 8) (.node .leaf 193 ([.pointer none], 8) .leaf))) 194 ([.nilFunc], 8) (.node (.node (.node .leaf 196 ([.nilFunc], 8) .leaf) 197 ([.nilFunc], 8) (.node .leaf 198 ([.nilFunc], 8) .leaf)) 200 ([.nilFunc], 8) (.node (.node .leaf 201 ([.nilFunc], 8) .leaf) 202 ([.nilFunc], 8) (.node .leaf 204 ([.nilFunc], 8) .leaf)))) 205 ([.nilFunc], 8) (.node (.node (.node (.node .leaf 206 ([.nilFunc], 8) .leaf) 207 ([.nilFunc], 8) (.node .leaf 208 ([.nilFunc], 8) .leaf)) 209 ([.nilFunc], 8) (.node (.node .leaf 210 ([.nilFunc], 8) .leaf) 211 ([.nilFunc], 8) (.node .leaf 212 ([.int .u64 0], 8) .leaf))) 213 ([.nilFunc], 8) (.node (.node (.node .leaf 215 ([.nilFunc], 8) .leaf) 216 ([.nilFunc], 8) (.node .leaf 217 ([.nilFunc], 8) .leaf)) 219 ([.nilFunc], 8) (.node (.node .leaf 220 ([.nilFunc], 8) .leaf) 221 ([.nilFunc], 8) (.node .leaf 223 ([.nilFunc], 8) .leaf)))))) 224 ([.nilFunc], 8) (.node (.node (.node (.node (.node (.node (.node .leaf 225 ([.nilFunc], 8) .leaf) 226 ([.nilFunc], 8) .leaf) 227 ([.nilFunc], 8) (.node .leaf 228 ([.nilFunc], 8) .leaf)) 229 ([.map none], 8) (.node (.node .leaf 230 ([.nilFunc], 8) .leaf) 231 ([.nilFunc], 8) (.node .leaf 232 ([.nilFunc], 8) .leaf))) 233 ([.nilFunc], 8) (.node (.node (.node .leaf 234 ([.nilFunc], 8) .leaf) 235 ([.int .i64 0], 8) (.node .leaf 237 ([.nilFunc], 8) .leaf)) 238 ([.nilFunc], 8) (.node (.node .leaf 239 ([.nilFunc], 8) .leaf) 240 ([.nilFunc], 8) (.node .leaf 241 ([.nilFunc], 8) .leaf)))) 242 ([.nilFunc], 8) (.node (.node (.node (.node .leaf 243 ([.nilFunc], 8) .leaf) 245 ([.nilFunc], 8) (.node .leaf 246 ([.nilFunc], 8) .leaf)) 247 ([.nilFunc], 8) (.node (.node .leaf 248 ([.nilFunc], 8) .leaf) 249 ([.nilFunc], 8) (.node .leaf 250 ([.nilFunc], 8) .leaf))) 252 ([.nilFunc], 8) (.node (.node (.node .leaf 253 ([.nilFunc], 8) .leaf) 254 ([.nilFunc], 8) (.node .leaf 255 ([.nilFunc], 8) .leaf)) 256 ([.pointer none], 8) (.node (.node .leaf 257 ([.nilFunc], 8) .leaf) 258 ([.nilFunc], 8) (.node .leaf 259 ([.nilFunc], 8) .leaf))))) 260 ([.nilFunc], 8) (.node (.node (.node (.node (.node .leaf 261 ([.int .u64 0], 8) .leaf) 262 ([.nilFunc], 8) (.node .leaf 263 ([.nilFunc], 8) .leaf)) 264 ([.nilFunc], 8) (.node (.node .leaf 265 ([.pointer none], 8) .leaf) 266 ([.nilFunc], 8) (.node .leaf 268 ([.nilFunc], 8) .leaf))) 270 ([.int .u8 0, .int .u8 0], 2) (.node (.node (.node .leaf 271 ([.int .u8 0, .int .u8 0], 2) .leaf) 272 ([.int .u8 0, .int .u8 0, .int .u8 0, .int .u8 0, .int .u8 0, .int .u8 0, .int .u8 0, .int .u8 0, .int .u8 0, .int .u8 0, .int .u8 0, .int .u8 0, .int .u8 0, .int .u8 0, .int .u8 0, .int .u8 0, .int .u8 0, .int .u8 0, .int .u8 0, .int .u8 0, .int .u8 0, .int .u8 0, .int .u8 0, .int .u8 0, .int .u8 0, .int .u8 0, .int .u8 0, .int .u8 0, .int .u8 0, .int .u8 0, .int .u8 0, .int .u8 0], 32) (.node .leaf 273 ([.nilFunc], 8) .leaf)) 274 ([.int .u8 0, .int .u8 0, .int .u8 0, .int .u8 0, .int .u8 0, .int .u8 0, .int .u8 0, .int .u8 0, .int .u8 0, .int .u8 0, .int .u8 0, .int .u8 0, .int .u8 0, .int .u8 0, .int .u8 0, .int .u8 0, .int .u8 0, .int .u8 0, .int .u8 0, .int .u8 0, .int .u8 0, .int .u8 0, .int .u8 0, .int .u8 0, .int .u8 0, .int .u8 0, .int .u8 0, .int .u8 0, .int .u8 0, .int .u8 0, .int .u8 0, .int .u8 0], 32) (.node (.node .leaf 275 ([.int .u8 0, .int .u8 0, .int .u8 0, .int .u8 0, .int .u8 0, .int .u8 0, .int .u8 0, .int .u8 0, .int .u8 0, .int .u8 0, .int .u8 0, .int .u8 0, .int .u8 0, .int .u8 0, .int .u8 0, .int .u8 0, .int .u8 0, .int .u8 0, .int .u8 0, .int .u8 0, .int .u8 0, .int .u8 0, .int .u8 0, .int .u8 0], 24) .leaf) 276 ([.nilFunc], 8) (.node .leaf 278 ([.nilFunc], 8) .leaf)))) 279 ([.pointer none], 8) (.node (.node (.node (.node .leaf 281 ([.nilFunc], 8) .leaf) 282 ([.int .u64 0, .int .u64 0, .int .u64 0, .int .u64 0, .int .u64 0, .int .u64 0, .int .u64 0, .int .u64 0, .int .u64 0, .int .u64 0, .int .u64 0, .int .u64 0, .int .u64 0, .int .u64 0, .int .u64 0, .int .u64 0, .int .u64 0, .int .u64 0, .int .u64 0, .int .u64 0], 160) (.node .leaf 284 ([.int .u8 0, .int .u8 0, .int .u8 0, .int .u8 0, .int .u8 0, .int .u8 0, .int .u8 0, .int .u8 0, .int .u8 0, .int .u8 0, .int .u8 0, .int .u8 0, .int .u8 0, .int .u8 0, .int .u8 0, .int .u8 0, .int .u8 0, .int .u8 0, .int .u8 0, .int .u8 0, .int .u8 0, .int .u8 0, .int .u8 0, .int .u8 0, .int .u8 0, .int .u8 0, .int .u8 0, .int .u8 0, .int .u8 0, .int .u8 0, .int .u8 0, .int .u8 0, .int .u8 0, .int .u8 0, .int .u8 0, .int .u8 0, .int .u8 0, .int .u8 0, .int .u8 0, .int .u8 0, .int .u8 0, .int .u8 0, .int .u8 0, .int .u8 0, .int .u8 0, .int .u8 0, .int .u8 0, .int .u8 0, .int .u8 0, .int .u8 0, .int .u8 0, .int .u8 0, .int .u8 0, .int .u8 0, .int .u8 0, .int .u8 0, .int .u8 0, .int .u8 0, .int .u8 0, .int .u8 0, .int .u8 0, .int .u8 0, .int .u8 0, .int .u8 0], 64) .leaf)) 285 ([.pointer none, .pointer none, .pointer none, .string ByteArray.empty], 40) (.node (.node .leaf 286 ([.pointer none, .pointer none, .pointer none, .string ByteArray.empty], 40) .leaf) 287 ([], 0) (.node .leaf 288 ([], 0) .leaf))) 289 ([], 0) (.node (.node (.node .leaf 290 ([.int .u8 0], 1) .leaf) 291 ([.int .u8 0], 1) (.node .leaf 292 ([.nilFunc], 8) .leaf)) 293 ([.int .i32 0], 4) (.node (.node .leaf 294 ([.int .i32 0], 4) .leaf) 295 ([.int .u64 0, .int .u64 0, .int .u32 0, .int .u8 0, .int .u8 0, .int .u8 0, .int .u8 0, .nilFunc, .pointer none, .int .i32 0, .int .i32 0], 48) (.node .leaf 296 ([.int .u64 0, .int .u64 0, .int .u32 0, .int .u8 0, .int .u8 0, .int .u8 0, .int .u8 0, .nilFunc, .pointer none, .int .i32 0, .int .i32 0], 48) .leaf))))))))
set_option maxRecDepth 100000 in
def fnB : BT Unit := (.node (.node (.node (.node (.node (.node (.node (.node (.node .leaf 3 () .leaf) 4 () .leaf) 5 () (.node .leaf 6 () .leaf)) 7 () (.node (.node (.node .leaf 8 () .leaf) 9 () .leaf) 10 () (.node .leaf 11 () .leaf))) 12 () (.node (.node (.node (.node .leaf 13 () .leaf) 14 () .leaf) 15 () (.node .leaf 16 () .leaf)) 17 () (.node (.node .leaf 18 () .leaf) 19 () (.node .leaf 20 () .leaf)))) 21 () (.node (.node (.node (.node (.node .leaf 22 () .leaf) 23 () .leaf) 24 () (.node .leaf 25 () .leaf)) 26 () (.node (.node .leaf 27 () .leaf) 28 () (.node .leaf 29 () .leaf))) 30 () (.node (.node (.node (.node .leaf 31 () .leaf) 32 () .leaf) 33 () (.node .leaf 34 () .leaf)) 35 () (.node (.node .leaf 36 () .leaf) 37 () (.node .leaf 38 () .leaf))))) 39 () (.node (.node (.node (.node (.node (.node .leaf 40 () .leaf) 41 () .leaf) 42 () (.node .leaf 43 () .leaf)) 44 () (.node (.node (.node .leaf 45 () .leaf) 46 () .leaf) 47 () (.node .leaf 48 () .leaf))) 49 () (.node (.node (.node (.node .leaf 50 () .leaf) 51 () .leaf) 52 () (.node .leaf 53 () .leaf)) 54 () (.node (.node .leaf 55 () .leaf) 56 () (.node .leaf 57 () .leaf)))) 58 () (.node (.node (.node (.node (.node .leaf 59 () .leaf) 60 () .leaf) 61 () (.node .leaf 62 () .leaf)) 63 () (.node (.node .leaf 64 () .leaf) 65 () (.node .leaf 66 () .leaf))) 67 () (.node (.node (.node (.node .leaf 68 () .leaf) 69 () .leaf) 70 () (.node .leaf 71 () .leaf)) 72 () (.node (.node .leaf 73 () .leaf) 74 () (.node .leaf 75 () .leaf)))))) 76 () (.node (.node (.node (.node (.node (.node (.node .leaf 77 () .leaf) 78 () .leaf) 79 () (.node .leaf 80 () .leaf)) 81 () (.node (.node (.node .leaf 82 () .leaf) 83 () .leaf) 84 () (.node .leaf 85 () .leaf))) 86 () (.node (.node (.node (.node .leaf 87 () .leaf) 88 () .leaf) 89 () (.node .leaf 90 () .leaf)) 91 () (.node (.node .leaf 92 () .leaf) 93 () (.node .leaf 94 () .leaf)))) 95 () (.node (.node (.node (.node (.node .leaf 96 () .leaf) 97 () .leaf) 98 () (.node .leaf 99 () .leaf)) 100 () (.node (.node .leaf 101 () .leaf) 102 () (.node .leaf 103 () .leaf))) 104 () (.node (.node (.node (.node .leaf 105 () .leaf) 106 () .leaf) 107 () (.node .leaf 108 () .leaf)) 109 () (.node (.node .leaf 110 () .leaf) 111 () (.node .leaf 112 () .leaf))))) 113 () (.node (.node (.node (.node (.node (.node .leaf 114 () .leaf) 115 () .leaf) 116 () (.node .leaf 117 () .leaf)) 118 () (.node (.node (.node .leaf 119 () .leaf) 120 () .leaf) 121 () (.node .leaf 122 () .leaf))) 123 () (.node (.node (.node (.node .leaf 124 () .leaf) 125 () .leaf) 126 () (.node .leaf 127 () .leaf)) 128 () (.node (.node .leaf 129 () .leaf) 130 () (.node .leaf 131 () .leaf)))) 132 () (.node (.node (.node (.node (.node .leaf 133 () .leaf) 134 () .leaf) 135 () (.node .leaf 136 () .leaf)) 137 () (.node (.node .leaf 138 () .leaf) 139 () (.node .leaf 140 () .leaf))) 141 () (.node (.node (.node (.node .leaf 142 () .leaf) 143 () .leaf) 144 () (.node .leaf 145 () .leaf)) 146 () (.node (.node .leaf 147 () .leaf) 148 () (.node .leaf 149 () .leaf))))))) 150 () (.node (.node (.node (.node (.node (.node (.node (.node .leaf 151 () .leaf) 152 () .leaf) 153 () (.node .leaf 154 () .leaf)) 155 () (.node (.node (.node .leaf 156 () .leaf) 157 () .leaf) 158 () (.node .leaf 159 () .leaf))) 160 () (.node (.node (.node (.node .leaf 161 () .leaf) 162 () .leaf) 163 () (.node .leaf 164 () .leaf)) 165 () (.node (.node .leaf 166 () .leaf) 167 () (.node .leaf 168 () .leaf)))) 169 () (.node (.node (.node (.node (.node .leaf 170 () .leaf) 171 () .leaf) 172 () (.node .leaf 173 () .leaf)) 174 () (.node (.node .leaf 175 () .leaf) 176 () (.node .leaf 177 () .leaf))) 178 () (.node (.node (.node (.node .leaf 179 () .leaf) 180 () .leaf) 181 () (.node .leaf 182 () .leaf)) 183 () (.node (.node .leaf 184 () .leaf) 185 () (.node .leaf 186 () .leaf))))) 187 () (.node (.node (.node (.node (.node (.node .leaf 188 () .leaf) 189 () .leaf) 190 () (.node .leaf 191 () .leaf)) 192 () (.node (.node (.node .leaf 193 () .leaf) 194 () .leaf) 195 () (.node .leaf 196 () .leaf))) 197 () (.node (.node (.node (.node .leaf 198 () .leaf) 199 () .leaf) 200 () (.node .leaf 201 () .leaf)) 202 () (.node (.node .leaf 203 () .leaf) 204 () (.node .leaf 205 () .leaf)))) 206 () (.node (.node (.node (.node (.node .leaf 207 () .leaf) 208 () .leaf) 209 () (.node .leaf 210 () .leaf)) 211 () (.node (.node .leaf 212 () .leaf) 213 () (.node .leaf 214 () .leaf))) 215 () (.node (.node (.node (.node .leaf 216 () .leaf) 217 () .leaf) 218 () (.node .leaf 219 () .leaf)) 220 () (.node (.node .leaf 221 () .leaf) 222 () (.node .leaf 223 () .leaf)))))) 224 () (.node (.node (.node (.node (.node (.node (.node .leaf 225 () .leaf) 226 () .leaf) 227 () (.node .leaf 228 () .leaf)) 229 () (.node (.node (.node .leaf 230 () .leaf) 231 () .leaf) 232 () (.node .leaf 233 () .leaf))) 234 () (.node (.node (.node (.node .leaf 235 () .leaf) 236 () .leaf) 237 () (.node .leaf 238 () .leaf)) 239 () (.node (.node .leaf 240 () .leaf) 241 () (.node .leaf 242 () .leaf)))) 243 () (.node (.node (.node (.node (.node .leaf 244 () .leaf) 245 () .leaf) 246 () (.node .leaf 247 () .leaf)) 248 () (.node (.node .leaf 249 () .leaf) 250 () (.node .leaf 251 () .leaf))) 252 () (.node (.node (.node (.node .leaf 253 () .leaf) 254 () .leaf) 255 () (.node .leaf 256 () .leaf)) 257 () (.node (.node .leaf 258 () .leaf) 259 () (.node .leaf 261 () .leaf))))) 262 () (.node (.node (.node (.node (.node (.node .leaf 263 () .leaf) 264 () .leaf) 265 () (.node .leaf 266 () .leaf)) 267 () (.node (.node .leaf 268 () .leaf) 269 () (.node .leaf 270 () .leaf))) 271 () (.node (.node (.node (.node .leaf 272 () .leaf) 273 () .leaf) 275 () (.node .leaf 276 () .leaf)) 277 () (.node (.node .leaf 278 () .leaf) 279 () (.node .leaf 280 () .leaf)))) 281 () (.node (.node (.node (.node (.node .leaf 282 () .leaf) 283 () .leaf) 284 () (.node .leaf 286 () .leaf)) 287 () (.node (.node .leaf 288 () .leaf) 289 () (.node .leaf 290 () .leaf))) 291 () (.node (.node (.node (.node .leaf 292 () .leaf) 293 () .leaf) 294 () (.node .leaf 295 () .leaf)) 296 () (.node (.node .leaf 297 () .leaf) 298 () (.node .leaf 299 () .leaf))))))))
set_option maxRecDepth 100000 in
theorem undB_eq : undB.toL = undL := rfl
set_option maxRecDepth 100000 in
theorem infB_eq : infB.toL = infL := rfl
set_option maxRecDepth 100000 in
theorem fnB_eq : fnB.toL.map (·.1) = fnL := rfl
noncomputable def T : Tab := { prog := Tryz.prog, und := look undB, inf := look infB, fn := fun f => (look fnB f).isSome, room := False }
set_option maxRecDepth 100000 in
theorem undOk : ∀ x ∈ undL, Tryz.prog.underlying x.1 = some x.2 := by
  unfold undL
  simp only [List.forall_mem_cons]
  exact ⟨Tryz.underlying1, Tryz.underlying2, Tryz.underlying3, Tryz.underlying4, Tryz.underlying5, Tryz.underlying6, Tryz.underlying7, Tryz.underlying8, Tryz.underlying9, Tryz.underlying10, Tryz.underlying11, Tryz.underlying12, Tryz.underlying13, Tryz.underlying14, Tryz.underlying15, Tryz.underlying16, Tryz.underlying17, Tryz.underlying18, Tryz.underlying19, Tryz.underlying21, Tryz.underlying22, Tryz.underlying23, Tryz.underlying24, Tryz.underlying25, Tryz.underlying26, Tryz.underlying27, Tryz.underlying28, Tryz.underlying29, Tryz.underlying31, Tryz.underlying32, Tryz.underlying33, Tryz.underlying34, Tryz.underlying36, Tryz.underlying37, Tryz.underlying38, Tryz.underlying40, Tryz.underlying41, Tryz.underlying42, Tryz.underlying43, Tryz.underlying44, Tryz.underlying46, Tryz.underlying48, Tryz.underlying49, Tryz.underlying51, Tryz.underlying52, Tryz.underlying53, Tryz.underlying55, Tryz.underlying56, Tryz.underlying57, Tryz.underlying58, Tryz.underlying59, Tryz.underlying60, Tryz.underlying61, Tryz.underlying63, Tryz.underlying64, Tryz.underlying65, Tryz.underlying66, Tryz.underlying67, Tryz.underlying68, Tryz.underlying69, Tryz.underlying70, Tryz.underlying71, Tryz.underlying72, Tryz.underlying74, Tryz.underlying75, Tryz.underlying76, Tryz.underlying77, Tryz.underlying78, Tryz.underlying79, Tryz.underlying80, Tryz.underlying81, Tryz.underlying82, Tryz.underlying83, Tryz.underlying84, Tryz.underlying85, Tryz.underlying86, Tryz.underlying87, Tryz.underlying88, Tryz.underlying89, Tryz.underlying90, Tryz.underlying91, Tryz.underlying92, Tryz.underlying93, Tryz.underlying94, Tryz.underlying95, Tryz.underlying96, Tryz.underlying97, Tryz.underlying99, Tryz.underlying100, Tryz.underlying101, Tryz.underlying102, Tryz.underlying103, Tryz.underlying104, Tryz.underlying105, Tryz.underlying106, Tryz.underlying107, Tryz.underlying109, Tryz.underlying110, Tryz.underlying112, Tryz.underlying113, Tryz.underlying114, Tryz.underlying115, Tryz.underlying116, Tryz.underlying118, Tryz.underlying119, Tryz.underlying120, Tryz.underlying121, Tryz.underlying122, Tryz.underlying123, Tryz.underlying124, Tryz.underlying126, Tryz.underlying127, Tryz.underlying129, Tryz.underlying130, Tryz.underlying131, Tryz.underlying132, Tryz.underlying133, Tryz.underlying134, Tryz.underlying135, Tryz.underlying136, Tryz.underlying137, Tryz.underlying138, Tryz.underlying139, Tryz.underlying140, Tryz.underlying141, Tryz.underlying142, Tryz.underlying143, Tryz.underlying144, Tryz.underlying145, Tryz.underlying146, Tryz.underlying147, Tryz.underlying148, Tryz.underlying149, Tryz.underlying150, Tryz.underlying151, Tryz.underlying152, Tryz.underlying153, Tryz.underlying154, Tryz.underlying155, Tryz.underlying156, Tryz.underlying157, Tryz.underlying158, Tryz.underlying159, Tryz.underlying160, Tryz.underlying161, Tryz.underlying162, Tryz.underlying163, Tryz.underlying164, Tryz.underlying165, Tryz.underlying167, Tryz.underlying168, Tryz.underlying169, Tryz.underlying171, Tryz.underlying172, Tryz.underlying173, Tryz.underlying174, Tryz.underlying175, Tryz.underlying176, Tryz.underlying177, Tryz.underlying178, Tryz.underlying179, Tryz.underlying180, Tryz.underlying181, Tryz.underlying182, Tryz.underlying183, Tryz.underlying184, Tryz.underlying185, Tryz.underlying186, Tryz.underlying190, Tryz.underlying191, Tryz.underlying192, Tryz.underlying193, Tryz.underlying194, Tryz.underlying196, Tryz.underlying197, Tryz.underlying198, Tryz.underlying200, Tryz.underlying201, Tryz.underlying202, Tryz.underlying204, Tryz.underlying205, Tryz.underlying206, Tryz.underlying207, Tryz.underlying208, Tryz.underlying209, Tryz.underlying210, Tryz.underlying211, Tryz.underlying212, Tryz.underlying213, Tryz.underlying215, Tryz.underlying216, Tryz.underlying217, Tryz.underlying219, Tryz.underlying220, Tryz.underlying221, Tryz.underlying223, Tryz.underlying224, Tryz.underlying225, Tryz.underlying226, Tryz.underlying227, Tryz.underlying228, Tryz.underlying229, Tryz.underlying230, Tryz.underlying231, Tryz.underlying232, Tryz.underlying233, Tryz.underlying234, Tryz.underlying235, Tryz.underlying237, Tryz.underlying238, Tryz.underlying239, Tryz.underlying240, Tryz.underlying241, Tryz.underlying242, Tryz.underlying243, Tryz.underlying245, Tryz.underlying246, Tryz.underlying247, Tryz.underlying248, Tryz.underlying249, Tryz.underlying250, Tryz.underlying252, Tryz.underlying253, Tryz.underlying254, Tryz.underlying255, Tryz.underlying257, Tryz.underlying258, Tryz.underlying259, Tryz.underlying260, Tryz.underlying261, Tryz.underlying262, Tryz.underlying263, Tryz.underlying264, Tryz.underlying265, Tryz.underlying266, Tryz.underlying268, Tryz.underlying269, Tryz.underlying270, Tryz.underlying271, Tryz.underlying272, Tryz.underlying273, Tryz.underlying274, Tryz.underlying275, Tryz.underlying276, Tryz.underlying278, Tryz.underlying279, Tryz.underlying281, Tryz.underlying282, Tryz.underlying283, Tryz.underlying284, Tryz.underlying285, Tryz.underlying286, Tryz.underlying287, Tryz.underlying288, Tryz.underlying289, Tryz.underlying290, Tryz.underlying291, Tryz.underlying292, Tryz.underlying293, Tryz.underlying294, Tryz.underlying295, Tryz.underlying296, fun _ h => by cases h⟩
set_option maxRecDepth 100000 in
theorem infOk : ∀ x ∈ infL, ∃ i v, Tryz.prog.info? x.1 = some i ∧ i.zero = some v ∧ v.cells = x.2.1.toArray ∧ i.size = x.2.1.length ∧ i.bytes = x.2.2 := by
  unfold infL
  simp only [List.forall_mem_cons]
  exact ⟨⟨Tryz.t1, _, by kernel_rfl, rfl, rfl, rfl, rfl⟩,
    ⟨Tryz.t2, _, by kernel_rfl, rfl, rfl, rfl, rfl⟩,
    ⟨Tryz.t3, _, by kernel_rfl, rfl, rfl, rfl, rfl⟩,
    ⟨Tryz.t4, _, by kernel_rfl, rfl, rfl, rfl, rfl⟩,
    ⟨Tryz.t5, _, by kernel_rfl, rfl, rfl, rfl, rfl⟩,
    ⟨Tryz.t6, _, by kernel_rfl, rfl, rfl, rfl, rfl⟩,
    ⟨Tryz.t7, _, by kernel_rfl, rfl, rfl, rfl, rfl⟩,
    ⟨Tryz.t8, _, by kernel_rfl, rfl, rfl, rfl, rfl⟩,
    ⟨Tryz.t9, _, by kernel_rfl, rfl, rfl, rfl, rfl⟩,
    ⟨Tryz.t10, _, by kernel_rfl, rfl, rfl, rfl, rfl⟩,
    ⟨Tryz.t11, _, by kernel_rfl, rfl, rfl, rfl, rfl⟩,
    ⟨Tryz.t12, _, by kernel_rfl, rfl, rfl, rfl, rfl⟩,
    ⟨Tryz.t13, _, by kernel_rfl, rfl, rfl, rfl, rfl⟩,
    ⟨Tryz.t14, _, by kernel_rfl, rfl, rfl, rfl, rfl⟩,
    ⟨Tryz.t15, _, by kernel_rfl, rfl, rfl, rfl, rfl⟩,
    ⟨Tryz.t16, _, by kernel_rfl, rfl, rfl, rfl, rfl⟩,
    ⟨Tryz.t17, _, by kernel_rfl, rfl, rfl, rfl, rfl⟩,
    ⟨Tryz.t18, _, by kernel_rfl, rfl, rfl, rfl, rfl⟩,
    ⟨Tryz.t19, _, by kernel_rfl, rfl, rfl, rfl, rfl⟩,
    ⟨Tryz.t21, _, by kernel_rfl, rfl, rfl, rfl, rfl⟩,
    ⟨Tryz.t22, _, by kernel_rfl, rfl, rfl, rfl, rfl⟩,
    ⟨Tryz.t23, _, by kernel_rfl, rfl, rfl, rfl, rfl⟩,
    ⟨Tryz.t24, _, by kernel_rfl, rfl, rfl, rfl, rfl⟩,
    ⟨Tryz.t25, _, by kernel_rfl, rfl, rfl, rfl, rfl⟩,
    ⟨Tryz.t26, _, by kernel_rfl, rfl, rfl, rfl, rfl⟩,
    ⟨Tryz.t27, _, by kernel_rfl, rfl, rfl, rfl, rfl⟩,
    ⟨Tryz.t28, _, by kernel_rfl, rfl, rfl, rfl, rfl⟩,
    ⟨Tryz.t29, _, by kernel_rfl, rfl, rfl, rfl, rfl⟩,
    ⟨Tryz.t31, _, by kernel_rfl, rfl, rfl, rfl, rfl⟩,
    ⟨Tryz.t32, _, by kernel_rfl, rfl, rfl, rfl, rfl⟩,
    ⟨Tryz.t33, _, by kernel_rfl, rfl, rfl, rfl, rfl⟩,
    ⟨Tryz.t34, _, by kernel_rfl, rfl, rfl, rfl, rfl⟩,
    ⟨Tryz.t36, _, by kernel_rfl, rfl, rfl, rfl, rfl⟩,
    ⟨Tryz.t37, _, by kernel_rfl, rfl, rfl, rfl, rfl⟩,
    ⟨Tryz.t38, _, by kernel_rfl, rfl, rfl, rfl, rfl⟩,
    ⟨Tryz.t40, _, by kernel_rfl, rfl, rfl, rfl, rfl⟩,
    ⟨Tryz.t41, _, by kernel_rfl, rfl, rfl, rfl, rfl⟩,
    ⟨Tryz.t42, _, by kernel_rfl, rfl, rfl, rfl, rfl⟩,
    ⟨Tryz.t43, _, by kernel_rfl, rfl, rfl, rfl, rfl⟩,
    ⟨Tryz.t44, _, by kernel_rfl, rfl, rfl, rfl, rfl⟩,
    ⟨Tryz.t46, _, by kernel_rfl, rfl, rfl, rfl, rfl⟩,
    ⟨Tryz.t48, _, by kernel_rfl, rfl, rfl, rfl, rfl⟩,
    ⟨Tryz.t49, _, by kernel_rfl, rfl, rfl, rfl, rfl⟩,
    ⟨Tryz.t51, _, by kernel_rfl, rfl, rfl, rfl, rfl⟩,
    ⟨Tryz.t52, _, by kernel_rfl, rfl, rfl, rfl, rfl⟩,
    ⟨Tryz.t53, _, by kernel_rfl, rfl, rfl, rfl, rfl⟩,
    ⟨Tryz.t55, _, by kernel_rfl, rfl, rfl, rfl, rfl⟩,
    ⟨Tryz.t56, _, by kernel_rfl, rfl, rfl, rfl, rfl⟩,
    ⟨Tryz.t57, _, by kernel_rfl, rfl, rfl, rfl, rfl⟩,
    ⟨Tryz.t58, _, by kernel_rfl, rfl, rfl, rfl, rfl⟩,
    ⟨Tryz.t59, _, by kernel_rfl, rfl, rfl, rfl, rfl⟩,
    ⟨Tryz.t60, _, by kernel_rfl, rfl, rfl, rfl, rfl⟩,
    ⟨Tryz.t61, _, by kernel_rfl, rfl, rfl, rfl, rfl⟩,
    ⟨Tryz.t63, _, by kernel_rfl, rfl, rfl, rfl, rfl⟩,
    ⟨Tryz.t64, _, by kernel_rfl, rfl, rfl, rfl, rfl⟩,
    ⟨Tryz.t65, _, by kernel_rfl, rfl, rfl, rfl, rfl⟩,
    ⟨Tryz.t66, _, by kernel_rfl, rfl, rfl, rfl, rfl⟩,
    ⟨Tryz.t67, _, by kernel_rfl, rfl, rfl, rfl, rfl⟩,
    ⟨Tryz.t68, _, by kernel_rfl, rfl, rfl, rfl, rfl⟩,
    ⟨Tryz.t69, _, by kernel_rfl, rfl, rfl, rfl, rfl⟩,
    ⟨Tryz.t70, _, by kernel_rfl, rfl, rfl, rfl, rfl⟩,
    ⟨Tryz.t71, _, by kernel_rfl, rfl, rfl, rfl, rfl⟩,
    ⟨Tryz.t72, _, by kernel_rfl, rfl, rfl, rfl, rfl⟩,
    ⟨Tryz.t74, _, by kernel_rfl, rfl, rfl, rfl, rfl⟩,
    ⟨Tryz.t75, _, by kernel_rfl, rfl, rfl, rfl, rfl⟩,
    ⟨Tryz.t76, _, by kernel_rfl, rfl, rfl, rfl, rfl⟩,
    ⟨Tryz.t77, _, by kernel_rfl, rfl, rfl, rfl, rfl⟩,
    ⟨Tryz.t78, _, by kernel_rfl, rfl, rfl, rfl, rfl⟩,
    ⟨Tryz.t79, _, by kernel_rfl, rfl, rfl, rfl, rfl⟩,
    ⟨Tryz.t80, _, by kernel_rfl, rfl, rfl, rfl, rfl⟩,
    ⟨Tryz.t81, _, by kernel_rfl, rfl, rfl, rfl, rfl⟩,
    ⟨Tryz.t82, _, by kernel_rfl, rfl, rfl, rfl, rfl⟩,
    ⟨Tryz.t83, _, by kernel_rfl, rfl, rfl, rfl, rfl⟩,
    ⟨Tryz.t84, _, by kernel_rfl, rfl, rfl, rfl, rfl⟩,
    ⟨Tryz.t85, _, by kernel_rfl, rfl, rfl, rfl, rfl⟩,
    ⟨Tryz.t86, _, by kernel_rfl, rfl, rfl, rfl, rfl⟩,
    ⟨Tryz.t87, _, by kernel_rfl, rfl, rfl, rfl, rfl⟩,
    ⟨Tryz.t88, _, by kernel_rfl, rfl, rfl, rfl, rfl⟩,
    ⟨Tryz.t89, _, by kernel_rfl, rfl, rfl, rfl, rfl⟩,
    ⟨Tryz.t90, _, by kernel_rfl, rfl, rfl, rfl, rfl⟩,
    ⟨Tryz.t91, _, by kernel_rfl, rfl, rfl, rfl, rfl⟩,
    ⟨Tryz.t92, _, by kernel_rfl, rfl, rfl, rfl, rfl⟩,
    ⟨Tryz.t93, _, by kernel_rfl, rfl, rfl, rfl, rfl⟩,
    ⟨Tryz.t94, _, by kernel_rfl, rfl, rfl, rfl, rfl⟩,
    ⟨Tryz.t95, _, by kernel_rfl, rfl, rfl, rfl, rfl⟩,
    ⟨Tryz.t96, _, by kernel_rfl, rfl, rfl, rfl, rfl⟩,
    ⟨Tryz.t97, _, by kernel_rfl, rfl, rfl, rfl, rfl⟩,
    ⟨Tryz.t99, _, by kernel_rfl, rfl, rfl, rfl, rfl⟩,
    ⟨Tryz.t100, _, by kernel_rfl, rfl, rfl, rfl, rfl⟩,
    ⟨Tryz.t101, _, by kernel_rfl, rfl, rfl, rfl, rfl⟩,
    ⟨Tryz.t102, _, by kernel_rfl, rfl, rfl, rfl, rfl⟩,
    ⟨Tryz.t103, _, by kernel_rfl, rfl, rfl, rfl, rfl⟩,
    ⟨Tryz.t104, _, by kernel_rfl, rfl, rfl, rfl, rfl⟩,
    ⟨Tryz.t105, _, by kernel_rfl, rfl, rfl, rfl, rfl⟩,
    ⟨Tryz.t106, _, by kernel_rfl, rfl, rfl, rfl, rfl⟩,
    ⟨Tryz.t107, _, by kernel_rfl, rfl, rfl, rfl, rfl⟩,
    ⟨Tryz.t109, _, by kernel_rfl, rfl, rfl, rfl, rfl⟩,
    ⟨Tryz.t110, _, by kernel_rfl, rfl, rfl, rfl, rfl⟩,
    ⟨Tryz.t112, _, by kernel_rfl, rfl, rfl, rfl, rfl⟩,
    ⟨Tryz.t113, _, by kernel_rfl, rfl, rfl, rfl, rfl⟩,
    ⟨Tryz.t114, _, by kernel_rfl, rfl, rfl, rfl, rfl⟩,
    ⟨Tryz.t115, _, by kernel_rfl, rfl, rfl, rfl, rfl⟩,
    ⟨Tryz.t116, _, by kernel_rfl, rfl, rfl, rfl, rfl⟩,
    ⟨Tryz.t118, _, by kernel_rfl, rfl, rfl, rfl, rfl⟩,
    ⟨Tryz.t119, _, by kernel_rfl, rfl, rfl, rfl, rfl⟩,
    ⟨Tryz.t120, _, by kernel_rfl, rfl, rfl, rfl, rfl⟩,
    ⟨Tryz.t121, _, by kernel_rfl, rfl, rfl, rfl, rfl⟩,
    ⟨Tryz.t122, _, by kernel_rfl, rfl, rfl, rfl, rfl⟩,
    ⟨Tryz.t123, _, by kernel_rfl, rfl, rfl, rfl, rfl⟩,
    ⟨Tryz.t124, _, by kernel_rfl, rfl, rfl, rfl, rfl⟩,
    ⟨Tryz.t126, _, by kernel_rfl, rfl, rfl, rfl, rfl⟩,
    ⟨Tryz.t127, _, by kernel_rfl, rfl, rfl, rfl, rfl⟩,
    ⟨Tryz.t129, _, by kernel_rfl, rfl, rfl, rfl, rfl⟩,
    ⟨Tryz.t130, _, by kernel_rfl, rfl, rfl, rfl, rfl⟩,
    ⟨Tryz.t131, _, by kernel_rfl, rfl, rfl, rfl, rfl⟩,
    ⟨Tryz.t132, _, by kernel_rfl, rfl, rfl, rfl, rfl⟩,
    ⟨Tryz.t133, _, by kernel_rfl, rfl, rfl, rfl, rfl⟩,
    ⟨Tryz.t134, _, by kernel_rfl, rfl, rfl, rfl, rfl⟩,
    ⟨Tryz.t135, _, by kernel_rfl, rfl, rfl, rfl, rfl⟩,
    ⟨Tryz.t136, _, by kernel_rfl, rfl, rfl, rfl, rfl⟩,
    ⟨Tryz.t137, _, by kernel_rfl, rfl, rfl, rfl, rfl⟩,
    ⟨Tryz.t138, _, by kernel_rfl, rfl, rfl, rfl, rfl⟩,
    ⟨Tryz.t139, _, by kernel_rfl, rfl, rfl, rfl, rfl⟩,
    ⟨Tryz.t140, _, by kernel_rfl, rfl, rfl, rfl, rfl⟩,
    ⟨Tryz.t141, _, by kernel_rfl, rfl, rfl, rfl, rfl⟩,
    ⟨Tryz.t142, _, by kernel_rfl, rfl, rfl, rfl, rfl⟩,
    ⟨Tryz.t143, _, by kernel_rfl, rfl, rfl, rfl, rfl⟩,
    ⟨Tryz.t144, _, by kernel_rfl, rfl, rfl, rfl, rfl⟩,
    ⟨Tryz.t145, _, by kernel_rfl, rfl, rfl, rfl, rfl⟩,
    ⟨Tryz.t146, _, by kernel_rfl, rfl, rfl, rfl, rfl⟩,
    ⟨Tryz.t147, _, by kernel_rfl, rfl, rfl, rfl, rfl⟩,
    ⟨Tryz.t148, _, by kernel_rfl, rfl, rfl, rfl, rfl⟩,
    ⟨Tryz.t149, _, by kernel_rfl, rfl, rfl, rfl, rfl⟩,
    ⟨Tryz.t150, _, by kernel_rfl, rfl, rfl, rfl, rfl⟩,
    ⟨Tryz.t151, _, by kernel_rfl, rfl, rfl, rfl, rfl⟩,
    ⟨Tryz.t152, _, by kernel_rfl, rfl, rfl, rfl, rfl⟩,
    ⟨Tryz.t153, _, by kernel_rfl, rfl, rfl, rfl, rfl⟩,
    ⟨Tryz.t154, _, by kernel_rfl, rfl, rfl, rfl, rfl⟩,
    ⟨Tryz.t155, _, by kernel_rfl, rfl, rfl, rfl, rfl⟩,
    ⟨Tryz.t156, _, by kernel_rfl, rfl, rfl, rfl, rfl⟩,
    ⟨Tryz.t157, _, by kernel_rfl, rfl, rfl, rfl, rfl⟩,
    ⟨Tryz.t158, _, by kernel_rfl, rfl, rfl, rfl, rfl⟩,
    ⟨Tryz.t159, _, by kernel_rfl, rfl, rfl, rfl, rfl⟩,
    ⟨Tryz.t160, _, by kernel_rfl, rfl, rfl, rfl, rfl⟩,
    ⟨Tryz.t161, _, by kernel_rfl, rfl, rfl, rfl, rfl⟩,
    ⟨Tryz.t162, _, by kernel_rfl, rfl, rfl, rfl, rfl⟩,
    ⟨Tryz.t163, _, by kernel_rfl, rfl, rfl, rfl, rfl⟩,
    ⟨Tryz.t167, _, by kernel_rfl, rfl, rfl, rfl, rfl⟩,
    ⟨Tryz.t168, _, by kernel_rfl, rfl, rfl, rfl, rfl⟩,
    ⟨Tryz.t169, _, by kernel_rfl, rfl, rfl, rfl, rfl⟩,
    ⟨Tryz.t171, _, by kernel_rfl, rfl, rfl, rfl, rfl⟩,
    ⟨Tryz.t172, _, by kernel_rfl, rfl, rfl, rfl, rfl⟩,
    ⟨Tryz.t173, _, by kernel_rfl, rfl, rfl, rfl, rfl⟩,
    ⟨Tryz.t174, _, by kernel_rfl, rfl, rfl, rfl, rfl⟩,
    ⟨Tryz.t175, _, by kernel_rfl, rfl, rfl, rfl, rfl⟩,
    ⟨Tryz.t176, _, by kernel_rfl, rfl, rfl, rfl, rfl⟩,
    ⟨Tryz.t177, _, by kernel_rfl, rfl, rfl, rfl, rfl⟩,
    ⟨Tryz.t178, _, by kernel_rfl, rfl, rfl, rfl, rfl⟩,
    ⟨Tryz.t179, _, by kernel_rfl, rfl, rfl, rfl, rfl⟩,
    ⟨Tryz.t180, _, by kernel_rfl, rfl, rfl, rfl, rfl⟩,
    ⟨Tryz.t181, _, by kernel_rfl, rfl, rfl, rfl, rfl⟩,
    ⟨Tryz.t182, _, by kernel_rfl, rfl, rfl, rfl, rfl⟩,
    ⟨Tryz.t183, _, by kernel_rfl, rfl, rfl, rfl, rfl⟩,
    ⟨Tryz.t184, _, by kernel_rfl, rfl, rfl, rfl, rfl⟩,
    ⟨Tryz.t185, _, by kernel_rfl, rfl, rfl, rfl, rfl⟩,
    ⟨Tryz.t186, _, by kernel_rfl, rfl, rfl, rfl, rfl⟩,
    ⟨Tryz.t190, _, by kernel_rfl, rfl, rfl, rfl, rfl⟩,
    ⟨Tryz.t191, _, by kernel_rfl, rfl, rfl, rfl, rfl⟩,
    ⟨Tryz.t192, _, by kernel_rfl, rfl, rfl, rfl, rfl⟩,
    ⟨Tryz.t193, _, by kernel_rfl, rfl, rfl, rfl, rfl⟩,
    ⟨Tryz.t194, _, by kernel_rfl, rfl, rfl, rfl, rfl⟩,
    ⟨Tryz.t196, _, by kernel_rfl, rfl, rfl, rfl, rfl⟩,
    ⟨Tryz.t197, _, by kernel_rfl, rfl, rfl, rfl, rfl⟩,
    ⟨Tryz.t198, _, by kernel_rfl, rfl, rfl, rfl, rfl⟩,
    ⟨Tryz.t200, _, by kernel_rfl, rfl, rfl, rfl, rfl⟩,
    ⟨Tryz.t201, _, by kernel_rfl, rfl, rfl, rfl, rfl⟩,
    ⟨Tryz.t202, _, by kernel_rfl, rfl, rfl, rfl, rfl⟩,
    ⟨Tryz.t204, _, by kernel_rfl, rfl, rfl, rfl, rfl⟩,
    ⟨Tryz.t205, _, by kernel_rfl, rfl, rfl, rfl, rfl⟩,
    ⟨Tryz.t206, _, by kernel_rfl, rfl, rfl, rfl, rfl⟩,
    ⟨Tryz.t207, _, by kernel_rfl, rfl, rfl, rfl, rfl⟩,
    ⟨Tryz.t208, _, by kernel_rfl, rfl, rfl, rfl, rfl⟩,
    ⟨Tryz.t209, _, by kernel_rfl, rfl, rfl, rfl, rfl⟩,
    ⟨Tryz.t210, _, by kernel_rfl, rfl, rfl, rfl, rfl⟩,
    ⟨Tryz.t211, _, by kernel_rfl, rfl, rfl, rfl, rfl⟩,
    ⟨Tryz.t212, _, by kernel_rfl, rfl, rfl, rfl, rfl⟩,
    ⟨Tryz.t213, _, by kernel_rfl, rfl, rfl, rfl, rfl⟩,
    ⟨Tryz.t215, _, by kernel_rfl, rfl, rfl, rfl, rfl⟩,
    ⟨Tryz.t216, _, by kernel_rfl, rfl, rfl, rfl, rfl⟩,
    ⟨Tryz.t217, _, by kernel_rfl, rfl, rfl, rfl, rfl⟩,
    ⟨Tryz.t219, _, by kernel_rfl, rfl, rfl, rfl, rfl⟩,
    ⟨Tryz.t220, _, by kernel_rfl, rfl, rfl, rfl, rfl⟩,
    ⟨Tryz.t221, _, by kernel_rfl, rfl, rfl, rfl, rfl⟩,
    ⟨Tryz.t223, _, by kernel_rfl, rfl, rfl, rfl, rfl⟩,
    ⟨Tryz.t224, _, by kernel_rfl, rfl, rfl, rfl, rfl⟩,
    ⟨Tryz.t225, _, by kernel_rfl, rfl, rfl, rfl, rfl⟩,
    ⟨Tryz.t226, _, by kernel_rfl, rfl, rfl, rfl, rfl⟩,
    ⟨Tryz.t227, _, by kernel_rfl, rfl, rfl, rfl, rfl⟩,
    ⟨Tryz.t228, _, by kernel_rfl, rfl, rfl, rfl, rfl⟩,
    ⟨Tryz.t229, _, by kernel_rfl, rfl, rfl, rfl, rfl⟩,
    ⟨Tryz.t230, _, by kernel_rfl, rfl, rfl, rfl, rfl⟩,
    ⟨Tryz.t231, _, by kernel_rfl, rfl, rfl, rfl, rfl⟩,
    ⟨Tryz.t232, _, by kernel_rfl, rfl, rfl, rfl, rfl⟩,
    ⟨Tryz.t233, _, by kernel_rfl, rfl, rfl, rfl, rfl⟩,
    ⟨Tryz.t234, _, by kernel_rfl, rfl, rfl, rfl, rfl⟩,
    ⟨Tryz.t235, _, by kernel_rfl, rfl, rfl, rfl, rfl⟩,
    ⟨Tryz.t237, _, by kernel_rfl, rfl, rfl, rfl, rfl⟩,
    ⟨Tryz.t238, _, by kernel_rfl, rfl, rfl, rfl, rfl⟩,
    ⟨Tryz.t239, _, by kernel_rfl, rfl, rfl, rfl, rfl⟩,
    ⟨Tryz.t240, _, by kernel_rfl, rfl, rfl, rfl, rfl⟩,
    ⟨Tryz.t241, _, by kernel_rfl, rfl, rfl, rfl, rfl⟩,
    ⟨Tryz.t242, _, by kernel_rfl, rfl, rfl, rfl, rfl⟩,
    ⟨Tryz.t243, _, by kernel_rfl, rfl, rfl, rfl, rfl⟩,
    ⟨Tryz.t245, _, by kernel_rfl, rfl, rfl, rfl, rfl⟩,
    ⟨Tryz.t246, _, by kernel_rfl, rfl, rfl, rfl, rfl⟩,
    ⟨Tryz.t247, _, by kernel_rfl, rfl, rfl, rfl, rfl⟩,
    ⟨Tryz.t248, _, by kernel_rfl, rfl, rfl, rfl, rfl⟩,
    ⟨Tryz.t249, _, by kernel_rfl, rfl, rfl, rfl, rfl⟩,
    ⟨Tryz.t250, _, by kernel_rfl, rfl, rfl, rfl, rfl⟩,
    ⟨Tryz.t252, _, by kernel_rfl, rfl, rfl, rfl, rfl⟩,
    ⟨Tryz.t253, _, by kernel_rfl, rfl, rfl, rfl, rfl⟩,
    ⟨Tryz.t254, _, by kernel_rfl, rfl, rfl, rfl, rfl⟩,
    ⟨Tryz.t255, _, by kernel_rfl, rfl, rfl, rfl, rfl⟩,
    ⟨Tryz.t256, _, by kernel_rfl, rfl, rfl, rfl, rfl⟩,
    ⟨Tryz.t257, _, by kernel_rfl, rfl, rfl, rfl, rfl⟩,
    ⟨Tryz.t258, _, by kernel_rfl, rfl, rfl, rfl, rfl⟩,
    ⟨Tryz.t259, _, by kernel_rfl, rfl, rfl, rfl, rfl⟩,
    ⟨Tryz.t260, _, by kernel_rfl, rfl, rfl, rfl, rfl⟩,
    ⟨Tryz.t261, _, by kernel_rfl, rfl, rfl, rfl, rfl⟩,
    ⟨Tryz.t262, _, by kernel_rfl, rfl, rfl, rfl, rfl⟩,
    ⟨Tryz.t263, _, by kernel_rfl, rfl, rfl, rfl, rfl⟩,
    ⟨Tryz.t264, _, by kernel_rfl, rfl, rfl, rfl, rfl⟩,
    ⟨Tryz.t265, _, by kernel_rfl, rfl, rfl, rfl, rfl⟩,
    ⟨Tryz.t266, _, by kernel_rfl, rfl, rfl, rfl, rfl⟩,
    ⟨Tryz.t268, _, by kernel_rfl, rfl, rfl, rfl, rfl⟩,
    ⟨Tryz.t270, _, by kernel_rfl, rfl, rfl, rfl, rfl⟩,
    ⟨Tryz.t271, _, by kernel_rfl, rfl, rfl, rfl, rfl⟩,
    ⟨Tryz.t272, _, by kernel_rfl, rfl, rfl, rfl, rfl⟩,
    ⟨Tryz.t273, _, by kernel_rfl, rfl, rfl, rfl, rfl⟩,
    ⟨Tryz.t274, _, by kernel_rfl, rfl, rfl, rfl, rfl⟩,
    ⟨Tryz.t275, _, by kernel_rfl, rfl, rfl, rfl, rfl⟩,
    ⟨Tryz.t276, _, by kernel_rfl, rfl, rfl, rfl, rfl⟩,
    ⟨Tryz.t278, _, by kernel_rfl, rfl, rfl, rfl, rfl⟩,
    ⟨Tryz.t279, _, by kernel_rfl, rfl, rfl, rfl, rfl⟩,
    ⟨Tryz.t281, _, by kernel_rfl, rfl, rfl, rfl, rfl⟩,
    ⟨Tryz.t282, _, by kernel_rfl, rfl, rfl, rfl, rfl⟩,
    ⟨Tryz.t284, _, by kernel_rfl, rfl, rfl, rfl, rfl⟩,
    ⟨Tryz.t285, _, by kernel_rfl, rfl, rfl, rfl, rfl⟩,
    ⟨Tryz.t286, _, by kernel_rfl, rfl, rfl, rfl, rfl⟩,
    ⟨Tryz.t287, _, by kernel_rfl, rfl, rfl, rfl, rfl⟩,
    ⟨Tryz.t288, _, by kernel_rfl, rfl, rfl, rfl, rfl⟩,
    ⟨Tryz.t289, _, by kernel_rfl, rfl, rfl, rfl, rfl⟩,
    ⟨Tryz.t290, _, by kernel_rfl, rfl, rfl, rfl, rfl⟩,
    ⟨Tryz.t291, _, by kernel_rfl, rfl, rfl, rfl, rfl⟩,
    ⟨Tryz.t292, _, by kernel_rfl, rfl, rfl, rfl, rfl⟩,
    ⟨Tryz.t293, _, by kernel_rfl, rfl, rfl, rfl, rfl⟩,
    ⟨Tryz.t294, _, by kernel_rfl, rfl, rfl, rfl, rfl⟩,
    ⟨Tryz.t295, _, by kernel_rfl, rfl, rfl, rfl, rfl⟩,
    ⟨Tryz.t296, _, by kernel_rfl, rfl, rfl, rfl, rfl⟩, fun _ h => by cases h⟩
set_option maxRecDepth 100000 in
theorem fnOk : ∀ f ∈ fnL, ∀ args w, (callFunc f args).run Tryz.prog w = .ok (.enter f args) w := by
  unfold fnL
  simp only [List.forall_mem_cons]
  exact ⟨Tryz.call3, Tryz.call4, Tryz.call5, Tryz.call6, Tryz.call7, Tryz.call8, Tryz.call9, Tryz.call10, Tryz.call11, Tryz.call12, Tryz.call13, Tryz.call14, Tryz.call15, Tryz.call16, Tryz.call17, Tryz.call18, Tryz.call19, Tryz.call20, Tryz.call21, Tryz.call22, Tryz.call23, Tryz.call24, Tryz.call25, Tryz.call26, Tryz.call27, Tryz.call28, Tryz.call29, Tryz.call30, Tryz.call31, Tryz.call32, Tryz.call33, Tryz.call34, Tryz.call35, Tryz.call36, Tryz.call37, Tryz.call38, Tryz.call39, Tryz.call40, Tryz.call41, Tryz.call42, Tryz.call43, Tryz.call44, Tryz.call45, Tryz.call46, Tryz.call47, Tryz.call48, Tryz.call49, Tryz.call50, Tryz.call51, Tryz.call52, Tryz.call53, Tryz.call54, Tryz.call55, Tryz.call56, Tryz.call57, Tryz.call58, Tryz.call59, Tryz.call60, Tryz.call61, Tryz.call62, Tryz.call63, Tryz.call64, Tryz.call65, Tryz.call66, Tryz.call67, Tryz.call68, Tryz.call69, Tryz.call70, Tryz.call71, Tryz.call72, Tryz.call73, Tryz.call74, Tryz.call75, Tryz.call76, Tryz.call77, Tryz.call78, Tryz.call79, Tryz.call80, Tryz.call81, Tryz.call82, Tryz.call83, Tryz.call84, Tryz.call85, Tryz.call86, Tryz.call87, Tryz.call88, Tryz.call89, Tryz.call90, Tryz.call91, Tryz.call92, Tryz.call93, Tryz.call94, Tryz.call95, Tryz.call96, Tryz.call97, Tryz.call98, Tryz.call99, Tryz.call100, Tryz.call101, Tryz.call102, Tryz.call103, Tryz.call104, Tryz.call105, Tryz.call106, Tryz.call107, Tryz.call108, Tryz.call109, Tryz.call110, Tryz.call111, Tryz.call112, Tryz.call113, Tryz.call114, Tryz.call115, Tryz.call116, Tryz.call117, Tryz.call118, Tryz.call119, Tryz.call120, Tryz.call121, Tryz.call122, Tryz.call123, Tryz.call124, Tryz.call125, Tryz.call126, Tryz.call127, Tryz.call128, Tryz.call129, Tryz.call130, Tryz.call131, Tryz.call132, Tryz.call133, Tryz.call134, Tryz.call135, Tryz.call136, Tryz.call137, Tryz.call138, Tryz.call139, Tryz.call140, Tryz.call141, Tryz.call142, Tryz.call143, Tryz.call144, Tryz.call145, Tryz.call146, Tryz.call147, Tryz.call148, Tryz.call149, Tryz.call150, Tryz.call151, Tryz.call152, Tryz.call153, Tryz.call154, Tryz.call155, Tryz.call156, Tryz.call157, Tryz.call158, Tryz.call159, Tryz.call160, Tryz.call161, Tryz.call162, Tryz.call163, Tryz.call164, Tryz.call165, Tryz.call166, Tryz.call167, Tryz.call168, Tryz.call169, Tryz.call170, Tryz.call171, Tryz.call172, Tryz.call173, Tryz.call174, Tryz.call175, Tryz.call176, Tryz.call177, Tryz.call178, Tryz.call179, Tryz.call180, Tryz.call181, Tryz.call182, Tryz.call183, Tryz.call184, Tryz.call185, Tryz.call186, Tryz.call187, Tryz.call188, Tryz.call189, Tryz.call190, Tryz.call191, Tryz.call192, Tryz.call193, Tryz.call194, Tryz.call195, Tryz.call196, Tryz.call197, Tryz.call198, Tryz.call199, Tryz.call200, Tryz.call201, Tryz.call202, Tryz.call203, Tryz.call204, Tryz.call205, Tryz.call206, Tryz.call207, Tryz.call208, Tryz.call209, Tryz.call210, Tryz.call211, Tryz.call212, Tryz.call213, Tryz.call214, Tryz.call215, Tryz.call216, Tryz.call217, Tryz.call218, Tryz.call219, Tryz.call220, Tryz.call221, Tryz.call222, Tryz.call223, Tryz.call224, Tryz.call225, Tryz.call226, Tryz.call227, Tryz.call228, Tryz.call229, Tryz.call230, Tryz.call231, Tryz.call232, Tryz.call233, Tryz.call234, Tryz.call235, Tryz.call236, Tryz.call237, Tryz.call238, Tryz.call239, Tryz.call240, Tryz.call241, Tryz.call242, Tryz.call243, Tryz.call244, Tryz.call245, Tryz.call246, Tryz.call247, Tryz.call248, Tryz.call249, Tryz.call250, Tryz.call251, Tryz.call252, Tryz.call253, Tryz.call254, Tryz.call255, Tryz.call256, Tryz.call257, Tryz.call258, Tryz.call259, Tryz.call261, Tryz.call262, Tryz.call263, Tryz.call264, Tryz.call265, Tryz.call266, Tryz.call267, Tryz.call268, Tryz.call269, Tryz.call270, Tryz.call271, Tryz.call272, Tryz.call273, Tryz.call275, Tryz.call276, Tryz.call277, Tryz.call278, Tryz.call279, Tryz.call280, Tryz.call281, Tryz.call282, Tryz.call283, Tryz.call284, Tryz.call286, Tryz.call287, Tryz.call288, Tryz.call289, Tryz.call290, Tryz.call291, Tryz.call292, Tryz.call293, Tryz.call294, Tryz.call295, Tryz.call296, Tryz.call297, Tryz.call298, Tryz.call299, fun _ h => by cases h⟩
theorem mixedOk : Tryz.prog.follows .mixedOrders = true := by kernel_rfl
set_option maxRecDepth 100000 in
theorem ok : T.Ok where
  und t d h := undOk (t, d) (undB_eq ▸ look_mem h)
  inf t z n h := infOk (t, (z, n)) (infB_eq ▸ look_mem h)
  fn f h args w := fnOk f (by
    obtain ⟨x, hx⟩ := Option.isSome_iff_exists.1 (show (look fnB f).isSome = true from h)
    have := List.mem_map_of_mem (f := (·.1)) (look_mem hx)
    rw [fnB_eq] at this; exact this) args w
  mixed := mixedOk
abbrev F.law04_ExprNames : Nat := 3
theorem D.law04_ExprNames : T.prog.funcs[F.law04_ExprNames]? = some Tryz.f3 := Tryz.func3
abbrev F.law04_ExprParses : Nat := 4
abbrev F.law04_ExprPrints : Nat := 5
abbrev F.law04_ExprNormal : Nat := 6
abbrev F.law04_ExprSwap : Nat := 7
abbrev F.law04_ExprSubst : Nat := 8
abbrev F.law04_ExprEqual : Nat := 9
abbrev F.law04_ExprValid : Nat := 10
abbrev F.law04_ExprBranch : Nat := 11
abbrev F.law04_ExprBranchEnds : Nat := 12
abbrev F.law04_ExprPeriodic : Nat := 13
abbrev F.law04_ExprPeriodicParts : Nat := 14
abbrev F.ref04_IsName : Nat := 15
theorem D.ref04_IsName : T.prog.funcs[F.ref04_IsName]? = some Tryz.f15 := Tryz.func15
abbrev F.expr_Parse : Nat := 16
theorem D.expr_Parse : T.prog.funcs[F.expr_Parse]? = some Tryz.f16 := Tryz.func16
abbrev F.expr_IsName : Nat := 17
theorem D.expr_IsName : T.prog.funcs[F.expr_IsName]? = some Tryz.f17 := Tryz.func17
abbrev F.law04_sane : Nat := 18
theorem D.law04_sane : T.prog.funcs[F.law04_sane]? = some Tryz.f18 := Tryz.func18
abbrev F.ref04_Parse : Nat := 19
abbrev F.law04_agrees : Nat := 20
abbrev F.law04_canonical : Nat := 21
abbrev F.expr_Print : Nat := 22
theorem D.expr_Print : T.prog.funcs[F.expr_Print]? = some Tryz.f22 := Tryz.func22
abbrev F.ref04_Print : Nat := 23
abbrev F.law04_longest : Nat := 24
abbrev F.ref04_Same : Nat := 25
abbrev F.expr_Swap : Nat := 26
abbrev F.ref04_Swap : Nat := 27
abbrev F.expr_Subst : Nat := 28
abbrev F.ref04_Subst : Nat := 29
abbrev F.expr_Equal : Nat := 30
abbrev F.ref04_Equal : Nat := 31
abbrev F.ref04_Valid : Nat := 32
abbrev F.expr_Size : Nat := 33
abbrev F.ref04_Size : Nat := 34
abbrev F.expr_Vars : Nat := 35
abbrev F.ref04_Vars : Nat := 36
abbrev F.expr_Smooth : Nat := 37
abbrev F.ref04_Smooth : Nat := 38
abbrev F.expr_Valid : Nat := 39
theorem D.expr_Valid : T.prog.funcs[F.expr_Valid]? = some Tryz.f39 := Tryz.func39
abbrev F.law04_same : Nat := 40
abbrev F.expr_Branch : Nat := 41
abbrev F.ref04_Branch : Nat := 42
abbrev F.law04_cases : Nat := 43
abbrev F.expr_Periodic : Nat := 44
abbrev F.ref04_Periodic : Nat := 45
abbrev F.ref04_Has : Nat := 46
abbrev F.law04_node : Nat := 47
abbrev F.ref04_word : Nat := 48
theorem D.ref04_word : T.prog.funcs[F.ref04_word]? = some Tryz.f48 := Tryz.func48
abbrev F.ref04_reserved : Nat := 49
theorem D.ref04_reserved : T.prog.funcs[F.ref04_reserved]? = some Tryz.f49 := Tryz.func49
abbrev F.syntax_Scan : Nat := 50
theorem D.syntax_Scan : T.prog.funcs[F.syntax_Scan]? = some Tryz.f50 := Tryz.func50
abbrev F.syntax_New : Nat := 51
theorem D.syntax_New : T.prog.funcs[F.syntax_New]? = some Tryz.f51 := Tryz.func51
abbrev F.syntax_Run : Nat := 52
abbrev F.expr_Parse_1 : Nat := 53
theorem D.expr_Parse_1 : T.prog.funcs[F.expr_Parse_1]? = some Tryz.f53 := Tryz.func53
abbrev F.psyntax_Parser_Expr : Nat := 54
theorem D.psyntax_Parser_Expr : T.prog.funcs[F.psyntax_Parser_Expr]? = some Tryz.f54 := Tryz.func54
abbrev F.psyntax_Parser_Done : Nat := 55
theorem D.psyntax_Parser_Done : T.prog.funcs[F.psyntax_Parser_Done]? = some Tryz.f55 := Tryz.func55
abbrev F.psyntax_Parser_Check : Nat := 56
theorem D.psyntax_Parser_Check : T.prog.funcs[F.psyntax_Parser_Check]? = some Tryz.f56 := Tryz.func56
abbrev F.expr_checked : Nat := 57
theorem D.expr_checked : T.prog.funcs[F.expr_checked]? = some Tryz.f57 := Tryz.func57
abbrev F.syntax_IsName : Nat := 58
theorem D.syntax_IsName : T.prog.funcs[F.syntax_IsName]? = some Tryz.f58 := Tryz.func58
abbrev F.ref04_Scan : Nat := 59
abbrev F.ref04_Begin : Nat := 60
abbrev F.pref04_Reader_Sum : Nat := 61
abbrev F.pref04_Reader_Next : Nat := 62
abbrev F.pref04_Reader_Fail : Nat := 63
abbrev F.ref04_Numbers : Nat := 64
abbrev F.ref04_fits : Nat := 65
abbrev F.law04_nothing : Nat := 66
abbrev F.ref01_Canonical : Nat := 67
abbrev F.expr_text : Nat := 68
theorem D.expr_text : T.prog.funcs[F.expr_text]? = some Tryz.f68 := Tryz.func68
abbrev F.ref04_Text : Nat := 69
abbrev F.ref01_Text : Nat := 70
abbrev F.ref01_Of : Nat := 71
abbrev F.ref01_Same : Nat := 72
abbrev F.expr_replaced : Nat := 73
abbrev F.expr_Swap_1 : Nat := 74
abbrev F.ref04_subst : Nat := 75
abbrev F.expr_Subst_1 : Nat := 76
abbrev F.expr_equal : Nat := 77
abbrev F.ref04_walk : Nat := 78
abbrev F.expr_count : Nat := 79
theorem D.expr_count : T.prog.funcs[F.expr_count]? = some Tryz.f79 := Tryz.func79
abbrev F.ref04_Count : Nat := 80
abbrev F.expr_nodes : Nat := 81
abbrev F.slices_Sorted_of_string : Nat := 82
abbrev F.maps_Keys_of_map_of_stringbool_string_bool : Nat := 83
abbrev F.ref04_Names : Nat := 84
abbrev F.expr_smooth : Nat := 85
abbrev F.ref04_rough : Nat := 86
abbrev F.expr_resolved : Nat := 87
abbrev F.ref04_resolved : Nat := 88
abbrev F.expr_periodic : Nat := 89
abbrev F.ref04_periodic : Nat := 90
abbrev F.syntax_word : Nat := 91
theorem D.syntax_word : T.prog.funcs[F.syntax_word]? = some Tryz.f91 := Tryz.func91
abbrev F.elem_Find : Nat := 92
theorem D.elem_Find : T.prog.funcs[F.elem_Find]? = some Tryz.f92 := Tryz.func92
abbrev F.syntax_Reserved : Nat := 93
theorem D.syntax_Reserved : T.prog.funcs[F.syntax_Reserved]? = some Tryz.f93 := Tryz.func93
abbrev F.syntax_number : Nat := 94
theorem D.syntax_number : T.prog.funcs[F.syntax_number]? = some Tryz.f94 := Tryz.func94
abbrev F.strings_HasPrefix : Nat := 95
theorem D.strings_HasPrefix : T.prog.funcs[F.strings_HasPrefix]? = some Tryz.f95 := Tryz.func95
abbrev F.syntax_Run_1 : Nat := 96
abbrev F.psyntax_Parser_term : Nat := 97
theorem D.psyntax_Parser_term : T.prog.funcs[F.psyntax_Parser_term]? = some Tryz.f97 := Tryz.func97
abbrev F.psyntax_Parser_Accept : Nat := 98
theorem D.psyntax_Parser_Accept : T.prog.funcs[F.psyntax_Parser_Accept]? = some Tryz.f98 := Tryz.func98
abbrev F.syntax_node : Nat := 99
theorem D.syntax_node : T.prog.funcs[F.syntax_node]? = some Tryz.f99 := Tryz.func99
abbrev F.psyntax_Parser_Fail : Nat := 100
theorem D.psyntax_Parser_Fail : T.prog.funcs[F.psyntax_Parser_Fail]? = some Tryz.f100 := Tryz.func100
abbrev F.strings_Cut : Nat := 101
theorem D.strings_Cut : T.prog.funcs[F.strings_Cut]? = some Tryz.f101 := Tryz.func101
abbrev F.strings_Trim : Nat := 102
theorem D.strings_Trim : T.prog.funcs[F.strings_Trim]? = some Tryz.f102 := Tryz.func102
abbrev F.number_Parse : Nat := 103
theorem D.number_Parse : T.prog.funcs[F.number_Parse]? = some Tryz.f103 := Tryz.func103
abbrev F.expr_clone : Nat := 104
theorem D.expr_clone : T.prog.funcs[F.expr_clone]? = some Tryz.f104 := Tryz.func104
abbrev F.ref04_letters : Nat := 105
abbrev F.ref04_kind : Nat := 106
abbrev F.ref04_number : Nat := 107
abbrev F.ref04_sign : Nat := 108
abbrev F.pref04_Reader_term : Nat := 109
abbrev F.pref04_Reader_At : Nat := 110
abbrev F.ref04_two : Nat := 111
abbrev F.ref04_nought : Nat := 112
abbrev F.ref01_Parse : Nat := 113
abbrev F.ref01_Large : Nat := 114
abbrev F.ref04_whole : Nat := 115
abbrev F.ref04_Fits : Nat := 116
abbrev F.ref01_Rat : Nat := 117
abbrev F.expr_write : Nat := 118
theorem D.expr_write : T.prog.funcs[F.expr_write]? = some Tryz.f118 := Tryz.func118
abbrev F.pstrings_Builder_String : Nat := 119
theorem D.pstrings_Builder_String : T.prog.funcs[F.pstrings_Builder_String]? = some Tryz.f119 := Tryz.func119
abbrev F.ref04_placed : Nat := 120
abbrev F.ref04_Digits : Nat := 121
abbrev F.ref04_called : Nat := 122
abbrev F.ref01_natText : Nat := 123
abbrev F.ref01_Q_whole : Nat := 124
abbrev F.ref01_words : Nat := 125
abbrev F.ref01_NatOf : Nat := 126
abbrev F.ref01_Make : Nat := 127
abbrev F.ref01_Cmp : Nat := 128
abbrev F.number_Compare : Nat := 129
abbrev F.slices_EqualFunc_of__of_api_Expr__of_api_Expr_api_Expr_api_Expr : Nat := 130
abbrev F.ref04_node : Nat := 131
abbrev F.expr_fields : Nat := 132
theorem D.expr_fields : T.prog.funcs[F.expr_fields]? = some Tryz.f132 := Tryz.func132
abbrev F.expr_nodes_1 : Nat := 133
abbrev F.expr_each : Nat := 134
abbrev F.slices_Collect_of_string : Nat := 135
abbrev F.slices_Sort_of__of_string_string : Nat := 136
abbrev F.maps_Keys_of_map_of_stringbool_string_bool_1 : Nat := 137
abbrev F.ref04_put : Nat := 138
abbrev F.expr_rough : Nat := 139
abbrev F.expr_with : Nat := 140
abbrev F.expr_node : Nat := 141
abbrev F.ref04_replaced : Nat := 142
abbrev F.ref04_one : Nat := 143
abbrev F.expr_linear : Nat := 144
abbrev F.ref04_linear : Nat := 145
abbrev F.syntax_letter : Nat := 146
theorem D.syntax_letter : T.prog.funcs[F.syntax_letter]? = some Tryz.f146 := Tryz.func146
abbrev F.syntax_digit : Nat := 147
theorem D.syntax_digit : T.prog.funcs[F.syntax_digit]? = some Tryz.f147 := Tryz.func147
abbrev F.elem_names : Nat := 148
theorem D.elem_names : T.prog.funcs[F.elem_names]? = some Tryz.f148 := Tryz.func148
abbrev F.syntax_digits : Nat := 149
theorem D.syntax_digits : T.prog.funcs[F.syntax_digits]? = some Tryz.f149 := Tryz.func149
abbrev F.internal_stringslite_HasPrefix : Nat := 150
theorem D.internal_stringslite_HasPrefix : T.prog.funcs[F.internal_stringslite_HasPrefix]? = some Tryz.f150 := Tryz.func150
abbrev F.psyntax_Parser_factor : Nat := 151
theorem D.psyntax_Parser_factor : T.prog.funcs[F.psyntax_Parser_factor]? = some Tryz.f151 := Tryz.func151
abbrev F.psyntax_Parser_At : Nat := 152
theorem D.psyntax_Parser_At : T.prog.funcs[F.psyntax_Parser_At]? = some Tryz.f152 := Tryz.func152
abbrev F.internal_stringslite_Cut : Nat := 153
theorem D.internal_stringslite_Cut : T.prog.funcs[F.internal_stringslite_Cut]? = some Tryz.f153 := Tryz.func153
abbrev F.strings_trimLeftByte : Nat := 154
theorem D.strings_trimLeftByte : T.prog.funcs[F.strings_trimLeftByte]? = some Tryz.f154 := Tryz.func154
abbrev F.strings_trimRightByte : Nat := 155
theorem D.strings_trimRightByte : T.prog.funcs[F.strings_trimRightByte]? = some Tryz.f155 := Tryz.func155
abbrev F.strings_makeASCIISet : Nat := 156
abbrev F.strings_trimLeftASCII : Nat := 157
abbrev F.strings_trimRightASCII : Nat := 158
abbrev F.strings_trimLeftUnicode : Nat := 159
abbrev F.strings_trimRightUnicode : Nat := 160
abbrev F.number_run : Nat := 161
theorem D.number_run : T.prog.funcs[F.number_run]? = some Tryz.f161 := Tryz.func161
abbrev F.word_Reduce : Nat := 162
theorem D.word_Reduce : T.prog.funcs[F.word_Reduce]? = some Tryz.f162 := Tryz.func162
abbrev F.number_natural : Nat := 163
theorem D.number_natural : T.prog.funcs[F.number_natural]? = some Tryz.f163 := Tryz.func163
abbrev F.word_Small : Nat := 164
theorem D.word_Small : T.prog.funcs[F.word_Small]? = some Tryz.f164 := Tryz.func164
abbrev F.word_Nat_Pow : Nat := 165
theorem D.word_Nat_Pow : T.prog.funcs[F.word_Nat_Pow]? = some Tryz.f165 := Tryz.func165
abbrev F.word_Frac_Give : Nat := 166
theorem D.word_Frac_Give : T.prog.funcs[F.word_Frac_Give]? = some Tryz.f166 := Tryz.func166
abbrev F.word_Nat_Zero : Nat := 167
theorem D.word_Nat_Zero : T.prog.funcs[F.word_Nat_Zero]? = some Tryz.f167 := Tryz.func167
abbrev F.number_Canon : Nat := 168
theorem D.number_Canon : T.prog.funcs[F.number_Canon]? = some Tryz.f168 := Tryz.func168
abbrev F.ref02_Find : Nat := 169
abbrev F.ref04_digits : Nat := 170
abbrev F.pref04_Reader_factor : Nat := 171
abbrev F.ref01_run : Nat := 172
abbrev F.ref01_Done : Nat := 173
abbrev F.ref01_natRead : Nat := 174
abbrev F.ref01_NatPow : Nat := 175
abbrev F.ref01_Over : Nat := 176
abbrev F.ref01_list : Nat := 177
abbrev F.number_Format : Nat := 178
theorem D.number_Format : T.prog.funcs[F.number_Format]? = some Tryz.f178 := Tryz.func178
abbrev F.pstrings_Builder_WriteString : Nat := 179
theorem D.pstrings_Builder_WriteString : T.prog.funcs[F.pstrings_Builder_WriteString]? = some Tryz.f179 := Tryz.func179
abbrev F.expr_place : Nat := 180
theorem D.expr_place : T.prog.funcs[F.expr_place]? = some Tryz.f180 := Tryz.func180
abbrev F.expr_infix : Nat := 181
theorem D.expr_infix : T.prog.funcs[F.expr_infix]? = some Tryz.f181 := Tryz.func181
abbrev F.strconv_Itoa : Nat := 182
abbrev F.expr_list : Nat := 183
theorem D.expr_list : T.prog.funcs[F.expr_list]? = some Tryz.f183 := Tryz.func183
abbrev F.ref04_level : Nat := 184
abbrev F.ref01_Int : Nat := 185
abbrev F.ref02_Name : Nat := 186
abbrev F.ref01_small : Nat := 187
abbrev F.ref01_trim : Nat := 188
abbrev F.ref01_NatGcd : Nat := 189
abbrev F.ref01_NatDiv : Nat := 190
abbrev F.ref01_Sgn : Nat := 191
abbrev F.ref01_Diff : Nat := 192
abbrev F.word_Read : Nat := 193
theorem D.word_Read : T.prog.funcs[F.word_Read]? = some Tryz.f193 := Tryz.func193
abbrev F.word_Frac_Cmp : Nat := 194
abbrev F.ref04_kids : Nat := 195
abbrev F.ref04_argument : Nat := 196
abbrev F.ref01_Zero : Nat := 197
abbrev F.expr_kids : Nat := 198
theorem D.expr_kids : T.prog.funcs[F.expr_kids]? = some Tryz.f198 := Tryz.func198
abbrev F.word_Of : Nat := 199
theorem D.word_Of : T.prog.funcs[F.word_Of]? = some Tryz.f199 := Tryz.func199
abbrev F.word_Frac_Sign : Nat := 200
theorem D.word_Frac_Sign : T.prog.funcs[F.word_Frac_Sign]? = some Tryz.f200 := Tryz.func200
abbrev F.slices_AppendSeq_of__of_string_string : Nat := 201
abbrev F.slices_pdqsortOrdered_of_string : Nat := 202
abbrev F.math_bits_Len : Nat := 203
abbrev F.expr_has : Nat := 204
abbrev F.expr_literal : Nat := 205
abbrev F.word_Nat_One : Nat := 206
theorem D.word_Nat_One : T.prog.funcs[F.word_Nat_One]? = some Tryz.f206 := Tryz.func206
abbrev F.ref04_literal : Nat := 207
abbrev F.ref01_Whole : Nat := 208
abbrev F.psyntax_Parser_atom : Nat := 209
theorem D.psyntax_Parser_atom : T.prog.funcs[F.psyntax_Parser_atom]? = some Tryz.f209 := Tryz.func209
abbrev F.psyntax_Parser_count : Nat := 210
theorem D.psyntax_Parser_count : T.prog.funcs[F.psyntax_Parser_count]? = some Tryz.f210 := Tryz.func210
abbrev F.internal_stringslite_Index : Nat := 211
theorem D.internal_stringslite_Index : T.prog.funcs[F.internal_stringslite_Index]? = some Tryz.f211 := Tryz.func211
abbrev F.pstrings_asciiSet_contains : Nat := 212
abbrev F.unicode_utf8_DecodeRuneInString : Nat := 213
abbrev F.strings_ContainsRune : Nat := 214
abbrev F.unicode_utf8_DecodeLastRuneInString : Nat := 215
abbrev F.word_Nat_Twos : Nat := 216
theorem D.word_Nat_Twos : T.prog.funcs[F.word_Nat_Twos]? = some Tryz.f216 := Tryz.func216
abbrev F.word_Nat_Shr : Nat := 217
theorem D.word_Nat_Shr : T.prog.funcs[F.word_Nat_Shr]? = some Tryz.f217 := Tryz.func217
abbrev F.word_Nat_Bits : Nat := 218
theorem D.word_Nat_Bits : T.prog.funcs[F.word_Nat_Bits]? = some Tryz.f218 := Tryz.func218
abbrev F.word_Nat_GCD : Nat := 219
theorem D.word_Nat_GCD : T.prog.funcs[F.word_Nat_GCD]? = some Tryz.f219 := Tryz.func219
abbrev F.word_Nat_Div : Nat := 220
theorem D.word_Nat_Div : T.prog.funcs[F.word_Nat_Div]? = some Tryz.f220 := Tryz.func220
abbrev F.word_Nat_Mul : Nat := 221
theorem D.word_Nat_Mul : T.prog.funcs[F.word_Nat_Mul]? = some Tryz.f221 := Tryz.func221
abbrev F.word_Nat_Add : Nat := 222
theorem D.word_Nat_Add : T.prog.funcs[F.word_Nat_Add]? = some Tryz.f222 := Tryz.func222
abbrev F.word_Frac_Fits : Nat := 223
theorem D.word_Frac_Fits : T.prog.funcs[F.word_Frac_Fits]? = some Tryz.f223 := Tryz.func223
abbrev F.slices_Clone_of__of_uint32_uint32 : Nat := 224
theorem D.slices_Clone_of__of_uint32_uint32 : T.prog.funcs[F.slices_Clone_of__of_uint32_uint32]? = some Tryz.f224 := Tryz.func224
abbrev F.number_one : Nat := 225
theorem D.number_one : T.prog.funcs[F.number_one]? = some Tryz.f225 := Tryz.func225
abbrev F.number_Canon_1 : Nat := 226
theorem D.number_Canon_1 : T.prog.funcs[F.number_Canon_1]? = some Tryz.f226 := Tryz.func226
abbrev F.pref04_Reader_atom : Nat := 227
abbrev F.pref04_Reader_digits : Nat := 228
abbrev F.ref01_NatAdd : Nat := 229
abbrev F.ref01_NatMul : Nat := 230
abbrev F.number_decimal : Nat := 231
theorem D.number_decimal : T.prog.funcs[F.number_decimal]? = some Tryz.f231 := Tryz.func231
abbrev F.pstrings_Builder_copyCheck : Nat := 232
abbrev F.expr_level : Nat := 233
theorem D.expr_level : T.prog.funcs[F.expr_level]? = some Tryz.f233 := Tryz.func233
abbrev F.internal_strconv_Itoa : Nat := 234
abbrev F.elem_Name : Nat := 235
theorem D.elem_Name : T.prog.funcs[F.elem_Name]? = some Tryz.f235 := Tryz.func235
abbrev F.ref01_NatCmp : Nat := 236
abbrev F.ref01_NatShl : Nat := 237
abbrev F.ref01_digit : Nat := 238
abbrev F.ref01_NatShr : Nat := 239
abbrev F.ref01_Sum : Nat := 240
abbrev F.ref01_Opp : Nat := 241
abbrev F.word_Nat_Cmp : Nat := 242
theorem D.word_Nat_Cmp : T.prog.funcs[F.word_Nat_Cmp]? = some Tryz.f242 := Tryz.func242
abbrev F.slices_insertionSortOrdered_of_string : Nat := 243
abbrev F.slices_heapSortOrdered_of_string : Nat := 244
abbrev F.slices_breakPatternsOrdered_of_string : Nat := 245
abbrev F.slices_choosePivotOrdered_of_string : Nat := 246
abbrev F.slices_reverseRangeOrdered_of_string : Nat := 247
abbrev F.slices_partialInsertionSortOrdered_of_string : Nat := 248
abbrev F.cmp_Less_of_string : Nat := 249
abbrev F.slices_partitionEqualOrdered_of_string : Nat := 250
abbrev F.slices_partitionOrdered_of_string : Nat := 251
abbrev F.math_bits_Len32 : Nat := 252
theorem D.math_bits_Len32 : T.prog.funcs[F.math_bits_Len32]? = some Tryz.f252 := Tryz.func252
abbrev F.math_bits_Len64 : Nat := 253
abbrev F.word_Frac_Opposite : Nat := 254
abbrev F.psyntax_Parser_Next : Nat := 255
theorem D.psyntax_Parser_Next : T.prog.funcs[F.psyntax_Parser_Next]? = some Tryz.f255 := Tryz.func255
abbrev F.psyntax_Parser_kids : Nat := 256
theorem D.psyntax_Parser_kids : T.prog.funcs[F.psyntax_Parser_kids]? = some Tryz.f256 := Tryz.func256
abbrev F.psyntax_Parser_Want : Nat := 257
theorem D.psyntax_Parser_Want : T.prog.funcs[F.psyntax_Parser_Want]? = some Tryz.f257 := Tryz.func257
abbrev F.psyntax_Parser_Number : Nat := 258
theorem D.psyntax_Parser_Number : T.prog.funcs[F.psyntax_Parser_Number]? = some Tryz.f258 := Tryz.func258
abbrev F.internal_stringslite_IndexByte : Nat := 259
abbrev F.internal_bytealg_Cutover : Nat := 261
abbrev F.internal_bytealg_IndexRabinKarp_of_string : Nat := 262
abbrev F.unicode_utf8_decodeRuneInStringSlow : Nat := 263
abbrev F.strings_IndexRune : Nat := 264
abbrev F.unicode_utf8_RuneStart : Nat := 265
abbrev F.math_bits_TrailingZeros32 : Nat := 266
theorem D.math_bits_TrailingZeros32 : T.prog.funcs[F.math_bits_TrailingZeros32]? = some Tryz.f266 := Tryz.func266
abbrev F.word_Nat_DivSmall : Nat := 267
theorem D.word_Nat_DivSmall : T.prog.funcs[F.word_Nat_DivSmall]? = some Tryz.f267 := Tryz.func267
abbrev F.math_bits_LeadingZeros32 : Nat := 268
theorem D.math_bits_LeadingZeros32 : T.prog.funcs[F.math_bits_LeadingZeros32]? = some Tryz.f268 := Tryz.func268
abbrev F.word_Nat_Shl : Nat := 269
theorem D.word_Nat_Shl : T.prog.funcs[F.word_Nat_Shl]? = some Tryz.f269 := Tryz.func269
abbrev F.word_digit : Nat := 270
theorem D.word_digit : T.prog.funcs[F.word_digit]? = some Tryz.f270 := Tryz.func270
abbrev F.pref04_Reader_list : Nat := 271
abbrev F.pref04_Reader_other : Nat := 272
abbrev F.slices_Reverse_of__of_byte_byte : Nat := 273
theorem D.slices_Reverse_of__of_byte_byte : T.prog.funcs[F.slices_Reverse_of__of_byte_byte]? = some Tryz.f273 := Tryz.func273
abbrev F.internal_strconv_FormatInt : Nat := 275
abbrev F.ref01_less : Nat := 276
abbrev F.ref01_Q_den : Nat := 277
abbrev F.ref01_NatSub : Nat := 278
abbrev F.slices_siftDownOrdered_of_string : Nat := 279
abbrev F.slices_nextPowerOfTwo : Nat := 280
abbrev F.pslices_xorshift_Next : Nat := 281
abbrev F.slices_medianAdjacentOrdered_of_string : Nat := 282
abbrev F.slices_medianOrdered_of_string : Nat := 283
abbrev F.cmp_isNaN_of_string : Nat := 284
abbrev F.internal_bytealg_hashStr_of_string : Nat := 286
abbrev F.strings_IndexByte : Nat := 287
abbrev F.unicode_utf8_ValidRune : Nat := 288
abbrev F.pref04_Reader_Take : Nat := 289
abbrev F.internal_strconv_small : Nat := 290
abbrev F.internal_strconv_numDigits : Nat := 291
abbrev F.internal_strconv_formatBase10 : Nat := 292
abbrev F.internal_strconv_formatBits : Nat := 293
abbrev F.slices_order2Ordered_of_string : Nat := 294
abbrev F.internal_strconv_log10Pow2 : Nat := 295
abbrev F.internal_strconv_bool2_of_int : Nat := 296
abbrev F.internal_strconv_isPowerOfTwo : Nat := 297
abbrev F.math_bits_TrailingZeros : Nat := 298
abbrev F.math_bits_TrailingZeros64 : Nat := 299
abbrev Ty.int64 : Nat := 2
abbrev Ty.int : Nat := 3
abbrev Ty.bool : Nat := 4
abbrev Ty.uint8 : Nat := 5
abbrev Ty.int32 : Nat := 21
abbrev Ty.api_Rat : Nat := 25
abbrev Ty.api_Expr : Nat := 28
abbrev Ty.api_Errno : Nat := 29
abbrev Ty.syntax_Fault : Nat := 67
abbrev Ty.ref04_Token : Nat := 78
abbrev Ty.ref04_Reader : Nat := 82
abbrev Ty.ref01_Nat : Nat := 87
abbrev Ty.ref01_Q : Nat := 89
abbrev Ty.api_Bind : Nat := 96
abbrev Ty.syntax_Token : Nat := 115
abbrev Ty.syntax_Parser : Nat := 122
abbrev Ty.syntax_count : Nat := 131
abbrev Ty.ref04_Use : Nat := 136
abbrev Ty.uint32 : Nat := 138
abbrev Ty.uint64 : Nat := 150
abbrev Ty.word_Nat : Nat := 172
abbrev Ty.word_Frac : Nat := 174
abbrev Gl.internal_bytealg_MaxLen : Nat := 0
abbrev Gl.unicode_utf8_first : Nat := 1
abbrev Gl.unicode_utf8_acceptRanges : Nat := 2
abbrev Gl.math_bits_deBruijn32tab : Nat := 3
abbrev Gl.internal_strconv_uint64pow10 : Nat := 4
abbrev Gl.math_bits_deBruijn64tab : Nat := 5
end Go.Proofs.YtchcjbbnkcodjaaGreatDoor
