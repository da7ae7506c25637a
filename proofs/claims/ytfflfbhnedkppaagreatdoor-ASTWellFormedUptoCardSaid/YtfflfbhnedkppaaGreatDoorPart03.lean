/- Part 3 of a proof that the law holds of every input of the given bulk. -/
import Derived.Test.YtfflfbhnedkppaaGreatDoorPart02
import Derived.Test.YtfflfbhnedkppaaGreatDoorProg
set_option autoImplicit false
set_option linter.unusedSimpArgs false
set_option linter.unusedVariables false
set_option linter.unusedSectionVars false
set_option maxRecDepth 100000
namespace Go.Proofs.Am
def zTab : List (Nat × Ty) := [
  (2, ⟨.int .i64, 1, 8, [.int .i64]⟩),
  (3, ⟨.int .i64, 1, 8, [.int .i64]⟩),
  (4, ⟨.bool, 1, 1, [.bool]⟩),
  (5, ⟨.int .u8, 1, 1, [.int .u8]⟩),
  (6, ⟨.int .u8, 1, 1, [.int .u8]⟩),
  (7, ⟨.struct [(0, 1), (1, 1), (2, 1), (3, 1)], 4, 24, [.int .i64, .int .i64, .bool, .int .u8]⟩),
  (8, ⟨.struct [(0, 1), (1, 1), (2, 1), (3, 1)], 4, 24, [.int .i64, .int .i64, .bool, .int .u8]⟩),
  (9, ⟨.str, 1, 16, [.str]⟩),
  (10, ⟨.str, 1, 16, [.str]⟩),
  (11, ⟨.str, 1, 16, [.str]⟩),
  (12, ⟨.int .u64, 1, 8, [.int .u64]⟩),
  (13, ⟨.struct [(0, 1), (1, 1)], 2, 24, [.str, .int .u64]⟩),
  (14, ⟨.struct [(0, 1), (1, 1)], 2, 24, [.str, .int .u64]⟩),
  (15, ⟨.ptr 289, 1, 8, [.nilp]⟩),
  (16, ⟨.ptr 292, 1, 8, [.nilp]⟩),
  (17, ⟨.ptr 300, 1, 8, [.nilp]⟩),
  (18, ⟨.struct [(0, 1)], 1, 8, [.nilp]⟩),
  (19, ⟨.struct [(0, 1)], 1, 8, [.nilp]⟩),
  (21, ⟨.int .i32, 1, 4, [.int .i32]⟩),
  (22, ⟨.slice 65, 1, 24, [.sl 65 3]⟩),
  (23, ⟨.slice 67, 1, 24, [.sl 67 4]⟩),
  (24, ⟨.slice 9, 1, 24, [.sl 9 1]⟩),
  (25, ⟨.slice 69, 1, 24, [.sl 69 3]⟩),
  (26, ⟨.slice 41, 1, 24, [.sl 41 8]⟩),
  (27, ⟨.struct [(0, 1), (1, 1), (2, 1), (3, 1), (4, 1), (5, 1)], 6, 144, [.sl 65 3, .sl 67 4, .sl 9 1, .sl 9 1, .sl 69 3, .sl 41 8]⟩),
  (28, ⟨.struct [(0, 1), (1, 1), (2, 1), (3, 1), (4, 1), (5, 1)], 6, 144, [.sl 65 3, .sl 67 4, .sl 9 1, .sl 9 1, .sl 69 3, .sl 41 8]⟩),
  (29, ⟨.int .i16, 1, 2, [.int .i16]⟩),
  (30, ⟨.slice 32, 1, 24, [.sl 32 6]⟩),
  (31, ⟨.struct [(0, 1), (1, 1), (2, 1), (3, 1), (4, 1), (5, 1)], 6, 72, [.int .i64, .str, .int .i16, .int .i64, .sl 32 6, .int .i64]⟩),
  (32, ⟨.struct [(0, 1), (1, 1), (2, 1), (3, 1), (4, 1), (5, 1)], 6, 72, [.int .i64, .str, .int .i16, .int .i64, .sl 32 6, .int .i64]⟩),
  (39, ⟨.slice 56, 1, 24, [.sl 56 7]⟩),
  (40, ⟨.struct [(0, 1), (1, 1), (2, 1), (3, 1), (4, 1), (5, 1), (6, 1), (7, 1)], 8, 104, [.str, .int .i64, .int .i64, .str, .str, .int .i64, .sl 56 7, .int .i64]⟩),
  (41, ⟨.struct [(0, 1), (1, 1), (2, 1), (3, 1), (4, 1), (5, 1), (6, 1), (7, 1)], 8, 104, [.str, .int .i64, .int .i64, .str, .str, .int .i64, .sl 56 7, .int .i64]⟩),
  (45, ⟨.other, 1, 8, [.nilf]⟩),
  (52, ⟨.other, 1, 8, [.nilf]⟩),
  (53, ⟨.other, 1, 8, [.nilf]⟩),
  (55, ⟨.struct [(0, 1), (1, 1), (2, 1), (3, 1), (4, 1), (5, 1), (6, 1)], 7, 112, [.int .i64, .str, .int .i64, .sl 32 6, .sl 56 7, .sl 56 7, .int .i64]⟩),
  (56, ⟨.struct [(0, 1), (1, 1), (2, 1), (3, 1), (4, 1), (5, 1), (6, 1)], 7, 112, [.int .i64, .str, .int .i64, .sl 32 6, .sl 56 7, .sl 56 7, .int .i64]⟩),
  (57, ⟨.other, 1, 8, [.nilf]⟩),
  (58, ⟨.other, 1, 8, [.nilf]⟩),
  (59, ⟨.other, 1, 8, [.nilf]⟩),
  (64, ⟨.struct [(0, 1), (1, 1), (2, 1)], 3, 32, [.str, .int .i16, .int .i64]⟩),
  (65, ⟨.struct [(0, 1), (1, 1), (2, 1)], 3, 32, [.str, .int .i16, .int .i64]⟩),
  (66, ⟨.struct [(0, 1), (1, 1), (2, 1), (3, 1)], 4, 40, [.str, .int .i64, .int .i16, .int .i64]⟩),
  (67, ⟨.struct [(0, 1), (1, 1), (2, 1), (3, 1)], 4, 40, [.str, .int .i64, .int .i16, .int .i64]⟩),
  (68, ⟨.struct [(0, 1), (1, 1), (2, 1)], 3, 32, [.str, .int .i64, .int .i64]⟩),
  (69, ⟨.struct [(0, 1), (1, 1), (2, 1)], 3, 32, [.str, .int .i64, .int .i64]⟩),
  (70, ⟨.slice 29, 1, 24, [.sl 29 1]⟩),
  (71, ⟨.slice 151, 1, 24, [.sl 151 2]⟩),
  (73, ⟨.slice 70, 1, 24, [.sl 70 1]⟩),
  (74, ⟨.struct [(0, 1), (1, 1)], 2, 48, [.sl 70 1, .sl 70 1]⟩),
  (75, ⟨.struct [(0, 1), (1, 1)], 2, 48, [.sl 70 1, .sl 70 1]⟩),
  (80, ⟨.slice 82, 1, 24, [.sl 82 4]⟩),
  (81, ⟨.struct [(0, 1), (1, 1), (2, 1), (3, 1)], 4, 48, [.int .i64, .int .i16, .sl 29 1, .int .i64]⟩),
  (82, ⟨.struct [(0, 1), (1, 1), (2, 1), (3, 1)], 4, 48, [.int .i64, .int .i16, .sl 29 1, .int .i64]⟩),
  (83, ⟨.slice 179, 1, 24, [.sl 179 2]⟩),
  (84, ⟨.struct [(0, 1), (1, 1), (2, 1)], 3, 56, [.sl 29 1, .sl 179 2, .int .i64]⟩),
  (85, ⟨.struct [(0, 1), (1, 1), (2, 1)], 3, 56, [.sl 29 1, .sl 179 2, .int .i64]⟩),
  (86, ⟨.slice 3, 1, 24, [.sl 3 1]⟩),
  (87, ⟨.struct [(0, 2), (2, 3), (5, 1), (6, 1)], 7, 136, [.sl 70 1, .sl 70 1, .sl 29 1, .sl 179 2, .int .i64, .int .i64, .sl 3 1]⟩),
  (88, ⟨.struct [(0, 2), (2, 3), (5, 1), (6, 1)], 7, 136, [.sl 70 1, .sl 70 1, .sl 29 1, .sl 179 2, .int .i64, .int .i64, .sl 3 1]⟩),
  (89, ⟨.int .i64, 1, 8, [.int .i64]⟩),
  (100, ⟨.map 9 29, 1, 8, [.nilm]⟩),
  (102, ⟨.struct [(0, 1)], 1, 8, [.nilm]⟩),
  (103, ⟨.struct [(0, 1)], 1, 8, [.nilm]⟩),
  (114, ⟨.ptr 117, 1, 8, [.nilp]⟩),
  (115, ⟨.slice 5, 1, 24, [.sl 5 1]⟩),
  (116, ⟨.struct [(0, 1), (1, 1)], 2, 32, [.nilp, .sl 5 1]⟩),
  (117, ⟨.struct [(0, 1), (1, 1)], 2, 32, [.nilp, .sl 5 1]⟩),
  (150, ⟨.struct [(0, 1), (1, 1)], 2, 24, [.int .i64, .str]⟩),
  (151, ⟨.struct [(0, 1), (1, 1)], 2, 24, [.int .i64, .str]⟩),
  (152, ⟨.ptr 154, 1, 8, [.nilp]⟩),
  (153, ⟨.struct [(0, 6), (6, 1), (7, 1), (8, 1), (9, 1), (10, 1)], 11, 208, [.sl 65 3, .sl 67 4, .sl 9 1, .sl 9 1, .sl 69 3, .sl 41 8, .sl 9 1, .int .i64, .bool, .bool, .sl 151 2]⟩),
  (154, ⟨.struct [(0, 6), (6, 1), (7, 1), (8, 1), (9, 1), (10, 1)], 11, 208, [.sl 65 3, .sl 67 4, .sl 9 1, .sl 9 1, .sl 69 3, .sl 41 8, .sl 9 1, .int .i64, .bool, .bool, .sl 151 2]⟩),
  (155, ⟨.slice 158, 1, 24, [.sl 158 4]⟩),
  (157, ⟨.struct [(0, 1), (1, 1), (2, 1), (3, 1)], 4, 40, [.str, .int .i64, .int .i64, .int .i64]⟩),
  (158, ⟨.struct [(0, 1), (1, 1), (2, 1), (3, 1)], 4, 40, [.str, .int .i64, .int .i64, .int .i64]⟩),
  (163, ⟨.ptr 167, 1, 8, [.nilp]⟩),
  (165, ⟨.slice 172, 1, 24, [.sl 172 2]⟩),
  (166, ⟨.struct [(0, 6), (6, 7), (13, 1), (14, 1), (15, 1)], 16, 336, [.sl 65 3, .sl 67 4, .sl 9 1, .sl 9 1, .sl 69 3, .sl 41 8, .sl 70 1, .sl 70 1, .sl 29 1, .sl 179 2, .int .i64, .int .i64, .sl 3 1, .sl 29 1, .sl 172 2, .int .i64]⟩),
  (167, ⟨.struct [(0, 6), (6, 7), (13, 1), (14, 1), (15, 1)], 16, 336, [.sl 65 3, .sl 67 4, .sl 9 1, .sl 9 1, .sl 69 3, .sl 41 8, .sl 70 1, .sl 70 1, .sl 29 1, .sl 179 2, .int .i64, .int .i64, .sl 3 1, .sl 29 1, .sl 172 2, .int .i64]⟩),
  (170, ⟨.ptr 75, 1, 8, [.nilp]⟩),
  (171, ⟨.struct [(0, 1), (1, 1)], 2, 24, [.str, .int .i16]⟩),
  (172, ⟨.struct [(0, 1), (1, 1)], 2, 24, [.str, .int .i16]⟩),
  (173, ⟨.int .i64, 1, 8, [.int .i64]⟩),
  (178, ⟨.struct [(0, 1), (1, 1)], 2, 16, [.int .i64, .int .i16]⟩),
  (179, ⟨.struct [(0, 1), (1, 1)], 2, 16, [.int .i64, .int .i16]⟩),
  (183, ⟨.struct [(0, 1), (1, 1), (2, 1), (3, 1), (4, 1)], 5, 16, [.bool, .bool, .bool, .bool, .int .i64]⟩),
  (184, ⟨.struct [(0, 1), (1, 1), (2, 1), (3, 1), (4, 1)], 5, 16, [.bool, .bool, .bool, .bool, .int .i64]⟩),
  (195, ⟨.ptr 5, 1, 8, [.nilp]⟩),
  (199, ⟨.array 16 9, 16, 256, [.str, .str, .str, .str, .str, .str, .str, .str, .str, .str, .str, .str, .str, .str, .str, .str]⟩),
  (202, ⟨.array 16 3, 16, 128, [.int .i64, .int .i64, .int .i64, .int .i64, .int .i64, .int .i64, .int .i64, .int .i64, .int .i64, .int .i64, .int .i64, .int .i64, .int .i64, .int .i64, .int .i64, .int .i64]⟩),
  (204, ⟨.slice 24, 1, 24, [.sl 24 1]⟩),
  (217, ⟨.ptr 29, 1, 8, [.nilp]⟩),
  (225, ⟨.struct [(0, 1), (1, 1), (2, 1), (3, 1), (4, 1)], 5, 16, [.bool, .bool, .bool, .bool, .int .i64]⟩),
  (226, ⟨.struct [(0, 1), (1, 1), (2, 1), (3, 1), (4, 1)], 5, 16, [.bool, .bool, .bool, .bool, .int .i64]⟩),
  (227, ⟨.array 14 226, 70, 224, [.bool, .bool, .bool, .bool, .int .i64, .bool, .bool, .bool, .bool, .int .i64, .bool, .bool, .bool, .bool, .int .i64, .bool, .bool, .bool, .bool, .int .i64, .bool, .bool, .bool, .bool, .int .i64, .bool, .bool, .bool, .bool, .int .i64, .bool, .bool, .bool, .bool, .int .i64, .bool, .bool, .bool, .bool, .int .i64, .bool, .bool, .bool, .bool, .int .i64, .bool, .bool, .bool, .bool, .int .i64, .bool, .bool, .bool, .bool, .int .i64, .bool, .bool, .bool, .bool, .int .i64, .bool, .bool, .bool, .bool, .int .i64, .bool, .bool, .bool, .bool, .int .i64]⟩),
  (234, ⟨.ptr 172, 1, 8, [.nilp]⟩),
  (239, ⟨.struct [(0, 1), (1, 1), (2, 1), (3, 1)], 4, 40, [.str, .int .i64, .int .i64, .int .i64]⟩),
  (240, ⟨.struct [(0, 1), (1, 1), (2, 1), (3, 1)], 4, 40, [.str, .int .i64, .int .i64, .int .i64]⟩),
  (242, ⟨.map 9 240, 1, 8, [.nilm]⟩),
  (245, ⟨.array 24 5, 24, 24, [.int .u8, .int .u8, .int .u8, .int .u8, .int .u8, .int .u8, .int .u8, .int .u8, .int .u8, .int .u8, .int .u8, .int .u8, .int .u8, .int .u8, .int .u8, .int .u8, .int .u8, .int .u8, .int .u8, .int .u8, .int .u8, .int .u8, .int .u8, .int .u8]⟩),
  (246, ⟨.int .u64, 1, 8, [.int .u64]⟩),
  (251, ⟨.array 256 5, 256, 256, [.int .u8, .int .u8, .int .u8, .int .u8, .int .u8, .int .u8, .int .u8, .int .u8, .int .u8, .int .u8, .int .u8, .int .u8, .int .u8, .int .u8, .int .u8, .int .u8, .int .u8, .int .u8, .int .u8, .int .u8, .int .u8, .int .u8, .int .u8, .int .u8, .int .u8, .int .u8, .int .u8, .int .u8, .int .u8, .int .u8, .int .u8, .int .u8, .int .u8, .int .u8, .int .u8, .int .u8, .int .u8, .int .u8, .int .u8, .int .u8, .int .u8, .int .u8, .int .u8, .int .u8, .int .u8, .int .u8, .int .u8, .int .u8, .int .u8, .int .u8, .int .u8, .int .u8, .int .u8, .int .u8, .int .u8, .int .u8, .int .u8, .int .u8, .int .u8, .int .u8, .int .u8, .int .u8, .int .u8, .int .u8, .int .u8, .int .u8, .int .u8, .int .u8, .int .u8, .int .u8, .int .u8, .int .u8, .int .u8, .int .u8, .int .u8, .int .u8, .int .u8, .int .u8, .int .u8, .int .u8, .int .u8, .int .u8, .int .u8, .int .u8, .int .u8, .int .u8, .int .u8, .int .u8, .int .u8, .int .u8, .int .u8, .int .u8, .int .u8, .int .u8, .int .u8, .int .u8, .int .u8, .int .u8, .int .u8, .int .u8, .int .u8, .int .u8, .int .u8, .int .u8, .int .u8, .int .u8, .int .u8, .int .u8, .int .u8, .int .u8, .int .u8, .int .u8, .int .u8, .int .u8, .int .u8, .int .u8, .int .u8, .int .u8, .int .u8, .int .u8, .int .u8, .int .u8, .int .u8, .int .u8, .int .u8, .int .u8, .int .u8, .int .u8, .int .u8, .int .u8, .int .u8, .int .u8, .int .u8, .int .u8, .int .u8, .int .u8, .int .u8, .int .u8, .int .u8, .int .u8, .int .u8, .int .u8, .int .u8, .int .u8, .int .u8, .int .u8, .int .u8, .int .u8, .int .u8, .int .u8, .int .u8, .int .u8, .int .u8, .int .u8, .int .u8, .int .u8, .int .u8, .int .u8, .int .u8, .int .u8, .int .u8, .int .u8, .int .u8, .int .u8, .int .u8, .int .u8, .int .u8, .int .u8, .int .u8, .int .u8, .int .u8, .int .u8, .int .u8, .int .u8, .int .u8, .int .u8, .int .u8, .int .u8, .int .u8, .int .u8, .int .u8, .int .u8, .int .u8, .int .u8, .int .u8, .int .u8, .int .u8, .int .u8, .int .u8, .int .u8, .int .u8, .int .u8, .int .u8, .int .u8, .int .u8, .int .u8, .int .u8, .int .u8, .int .u8, .int .u8, .int .u8, .int .u8, .int .u8, .int .u8, .int .u8, .int .u8, .int .u8, .int .u8, .int .u8, .int .u8, .int .u8, .int .u8, .int .u8, .int .u8, .int .u8, .int .u8, .int .u8, .int .u8, .int .u8, .int .u8, .int .u8, .int .u8, .int .u8, .int .u8, .int .u8, .int .u8, .int .u8, .int .u8, .int .u8, .int .u8, .int .u8, .int .u8, .int .u8, .int .u8, .int .u8, .int .u8, .int .u8, .int .u8, .int .u8, .int .u8, .int .u8, .int .u8, .int .u8, .int .u8, .int .u8, .int .u8, .int .u8, .int .u8, .int .u8, .int .u8, .int .u8, .int .u8, .int .u8, .int .u8, .int .u8, .int .u8]⟩),
  (256, ⟨.int .u16, 1, 2, [.int .u16]⟩),
  (260, ⟨.slice 240, 1, 24, [.sl 240 4]⟩),
  (262, ⟨.array 20 246, 20, 160, [.int .u64, .int .u64, .int .u64, .int .u64, .int .u64, .int .u64, .int .u64, .int .u64, .int .u64, .int .u64, .int .u64, .int .u64, .int .u64, .int .u64, .int .u64, .int .u64, .int .u64, .int .u64, .int .u64, .int .u64]⟩),
  (263, ⟨.int .u32, 1, 4, [.int .u32]⟩),
  (264, ⟨.array 65 5, 65, 65, [.int .u8, .int .u8, .int .u8, .int .u8, .int .u8, .int .u8, .int .u8, .int .u8, .int .u8, .int .u8, .int .u8, .int .u8, .int .u8, .int .u8, .int .u8, .int .u8, .int .u8, .int .u8, .int .u8, .int .u8, .int .u8, .int .u8, .int .u8, .int .u8, .int .u8, .int .u8, .int .u8, .int .u8, .int .u8, .int .u8, .int .u8, .int .u8, .int .u8, .int .u8, .int .u8, .int .u8, .int .u8, .int .u8, .int .u8, .int .u8, .int .u8, .int .u8, .int .u8, .int .u8, .int .u8, .int .u8, .int .u8, .int .u8, .int .u8, .int .u8, .int .u8, .int .u8, .int .u8, .int .u8, .int .u8, .int .u8, .int .u8, .int .u8, .int .u8, .int .u8, .int .u8, .int .u8, .int .u8, .int .u8, .int .u8]⟩),
  (265, ⟨.int .u64, 1, 8, [.int .u64]⟩),
  (267, ⟨.slice 269, 1, 24, [.sl 269 2]⟩),
  (268, ⟨.struct [(0, 1), (1, 1)], 2, 16, [.int .i64, .int .i64]⟩),
  (269, ⟨.struct [(0, 1), (1, 1)], 2, 16, [.int .i64, .int .i64]⟩),
  (271, ⟨.ptr 277, 1, 8, [.nilp]⟩),
  (274, ⟨.slice 279, 1, 24, [.sl 279 3]⟩),
  (275, ⟨.slice 282, 1, 24, [.sl 282 3]⟩),
  (276, ⟨.struct [(0, 1), (1, 1), (2, 1)], 3, 56, [.sl 279 3, .sl 282 3, .int .i64]⟩),
  (277, ⟨.struct [(0, 1), (1, 1), (2, 1)], 3, 56, [.sl 279 3, .sl 282 3, .int .i64]⟩),
  (278, ⟨.struct [(0, 1), (1, 1), (2, 1)], 3, 6, [.int .u16, .int .u16, .int .u16]⟩),
  (279, ⟨.struct [(0, 1), (1, 1), (2, 1)], 3, 6, [.int .u16, .int .u16, .int .u16]⟩),
  (281, ⟨.struct [(0, 1), (1, 1), (2, 1)], 3, 12, [.int .u32, .int .u32, .int .u32]⟩),
  (282, ⟨.struct [(0, 1), (1, 1), (2, 1)], 3, 12, [.int .u32, .int .u32, .int .u32]⟩),
  (284, ⟨.array 32 5, 32, 32, [.int .u8, .int .u8, .int .u8, .int .u8, .int .u8, .int .u8, .int .u8, .int .u8, .int .u8, .int .u8, .int .u8, .int .u8, .int .u8, .int .u8, .int .u8, .int .u8, .int .u8, .int .u8, .int .u8, .int .u8, .int .u8, .int .u8, .int .u8, .int .u8, .int .u8, .int .u8, .int .u8, .int .u8, .int .u8, .int .u8, .int .u8, .int .u8]⟩),
  (285, ⟨.array 64 5, 64, 64, [.int .u8, .int .u8, .int .u8, .int .u8, .int .u8, .int .u8, .int .u8, .int .u8, .int .u8, .int .u8, .int .u8, .int .u8, .int .u8, .int .u8, .int .u8, .int .u8, .int .u8, .int .u8, .int .u8, .int .u8, .int .u8, .int .u8, .int .u8, .int .u8, .int .u8, .int .u8, .int .u8, .int .u8, .int .u8, .int .u8, .int .u8, .int .u8, .int .u8, .int .u8, .int .u8, .int .u8, .int .u8, .int .u8, .int .u8, .int .u8, .int .u8, .int .u8, .int .u8, .int .u8, .int .u8, .int .u8, .int .u8, .int .u8, .int .u8, .int .u8, .int .u8, .int .u8, .int .u8, .int .u8, .int .u8, .int .u8, .int .u8, .int .u8, .int .u8, .int .u8, .int .u8, .int .u8, .int .u8, .int .u8]⟩),
  (286, ⟨.ptr 279, 1, 8, [.nilp]⟩),
  (287, ⟨.ptr 282, 1, 8, [.nilp]⟩),
  (288, ⟨.struct [(0, 1), (1, 1), (2, 1), (3, 1)], 4, 40, [.nilp, .nilp, .nilp, .str]⟩),
  (289, ⟨.struct [(0, 1), (1, 1), (2, 1), (3, 1)], 4, 40, [.nilp, .nilp, .nilp, .str]⟩),
  (294, ⟨.int .u8, 1, 1, [.int .u8]⟩),
  (295, ⟨.int .u8, 1, 1, [.int .u8]⟩),
  (297, ⟨.int .i32, 1, 4, [.int .i32]⟩),
  (298, ⟨.int .i32, 1, 4, [.int .i32]⟩),
  (299, ⟨.struct [(0, 1), (1, 1), (2, 1), (3, 1), (4, 1), (5, 1), (6, 1), (7, 1), (8, 1), (9, 1), (10, 1)], 11, 48, [.int .u64, .int .u64, .int .u32, .int .u8, .int .u8, .int .u8, .int .u8, .nilf, .nilp, .int .i32, .int .i32]⟩)]
theorem zTab_ok : zTab.all (tyChk Tryz.prog) = true := by kernel_rfl
def zty (t : Nat) : Option Ty := amLook t zTab
theorem zty_2 : zty 2 = some ⟨.int .i64, 1, 8, [.int .i64]⟩ := rfl
theorem zty_3 : zty 3 = some ⟨.int .i64, 1, 8, [.int .i64]⟩ := rfl
theorem zty_4 : zty 4 = some ⟨.bool, 1, 1, [.bool]⟩ := rfl
theorem zty_5 : zty 5 = some ⟨.int .u8, 1, 1, [.int .u8]⟩ := rfl
theorem zty_6 : zty 6 = some ⟨.int .u8, 1, 1, [.int .u8]⟩ := rfl
theorem zty_7 : zty 7 = some ⟨.struct [(0, 1), (1, 1), (2, 1), (3, 1)], 4, 24, [.int .i64, .int .i64, .bool, .int .u8]⟩ := rfl
theorem zty_8 : zty 8 = some ⟨.struct [(0, 1), (1, 1), (2, 1), (3, 1)], 4, 24, [.int .i64, .int .i64, .bool, .int .u8]⟩ := rfl
theorem zty_9 : zty 9 = some ⟨.str, 1, 16, [.str]⟩ := rfl
theorem zty_10 : zty 10 = some ⟨.str, 1, 16, [.str]⟩ := rfl
theorem zty_11 : zty 11 = some ⟨.str, 1, 16, [.str]⟩ := rfl
theorem zty_12 : zty 12 = some ⟨.int .u64, 1, 8, [.int .u64]⟩ := rfl
theorem zty_13 : zty 13 = some ⟨.struct [(0, 1), (1, 1)], 2, 24, [.str, .int .u64]⟩ := rfl
theorem zty_14 : zty 14 = some ⟨.struct [(0, 1), (1, 1)], 2, 24, [.str, .int .u64]⟩ := rfl
theorem zty_15 : zty 15 = some ⟨.ptr 289, 1, 8, [.nilp]⟩ := rfl
theorem zty_16 : zty 16 = some ⟨.ptr 292, 1, 8, [.nilp]⟩ := rfl
theorem zty_17 : zty 17 = some ⟨.ptr 300, 1, 8, [.nilp]⟩ := rfl
theorem zty_18 : zty 18 = some ⟨.struct [(0, 1)], 1, 8, [.nilp]⟩ := rfl
theorem zty_19 : zty 19 = some ⟨.struct [(0, 1)], 1, 8, [.nilp]⟩ := rfl
theorem zty_21 : zty 21 = some ⟨.int .i32, 1, 4, [.int .i32]⟩ := rfl
theorem zty_22 : zty 22 = some ⟨.slice 65, 1, 24, [.sl 65 3]⟩ := rfl
theorem zty_23 : zty 23 = some ⟨.slice 67, 1, 24, [.sl 67 4]⟩ := rfl
theorem zty_24 : zty 24 = some ⟨.slice 9, 1, 24, [.sl 9 1]⟩ := rfl
theorem zty_25 : zty 25 = some ⟨.slice 69, 1, 24, [.sl 69 3]⟩ := rfl
theorem zty_26 : zty 26 = some ⟨.slice 41, 1, 24, [.sl 41 8]⟩ := rfl
theorem zty_27 : zty 27 = some ⟨.struct [(0, 1), (1, 1), (2, 1), (3, 1), (4, 1), (5, 1)], 6, 144, [.sl 65 3, .sl 67 4, .sl 9 1, .sl 9 1, .sl 69 3, .sl 41 8]⟩ := rfl
theorem zty_28 : zty 28 = some ⟨.struct [(0, 1), (1, 1), (2, 1), (3, 1), (4, 1), (5, 1)], 6, 144, [.sl 65 3, .sl 67 4, .sl 9 1, .sl 9 1, .sl 69 3, .sl 41 8]⟩ := rfl
theorem zty_29 : zty 29 = some ⟨.int .i16, 1, 2, [.int .i16]⟩ := rfl
theorem zty_30 : zty 30 = some ⟨.slice 32, 1, 24, [.sl 32 6]⟩ := rfl
theorem zty_31 : zty 31 = some ⟨.struct [(0, 1), (1, 1), (2, 1), (3, 1), (4, 1), (5, 1)], 6, 72, [.int .i64, .str, .int .i16, .int .i64, .sl 32 6, .int .i64]⟩ := rfl
theorem zty_32 : zty 32 = some ⟨.struct [(0, 1), (1, 1), (2, 1), (3, 1), (4, 1), (5, 1)], 6, 72, [.int .i64, .str, .int .i16, .int .i64, .sl 32 6, .int .i64]⟩ := rfl
theorem zty_39 : zty 39 = some ⟨.slice 56, 1, 24, [.sl 56 7]⟩ := rfl
theorem zty_40 : zty 40 = some ⟨.struct [(0, 1), (1, 1), (2, 1), (3, 1), (4, 1), (5, 1), (6, 1), (7, 1)], 8, 104, [.str, .int .i64, .int .i64, .str, .str, .int .i64, .sl 56 7, .int .i64]⟩ := rfl
theorem zty_41 : zty 41 = some ⟨.struct [(0, 1), (1, 1), (2, 1), (3, 1), (4, 1), (5, 1), (6, 1), (7, 1)], 8, 104, [.str, .int .i64, .int .i64, .str, .str, .int .i64, .sl 56 7, .int .i64]⟩ := rfl
theorem zty_45 : zty 45 = some ⟨.other, 1, 8, [.nilf]⟩ := rfl
theorem zty_52 : zty 52 = some ⟨.other, 1, 8, [.nilf]⟩ := rfl
theorem zty_53 : zty 53 = some ⟨.other, 1, 8, [.nilf]⟩ := rfl
theorem zty_55 : zty 55 = some ⟨.struct [(0, 1), (1, 1), (2, 1), (3, 1), (4, 1), (5, 1), (6, 1)], 7, 112, [.int .i64, .str, .int .i64, .sl 32 6, .sl 56 7, .sl 56 7, .int .i64]⟩ := rfl
theorem zty_56 : zty 56 = some ⟨.struct [(0, 1), (1, 1), (2, 1), (3, 1), (4, 1), (5, 1), (6, 1)], 7, 112, [.int .i64, .str, .int .i64, .sl 32 6, .sl 56 7, .sl 56 7, .int .i64]⟩ := rfl
theorem zty_57 : zty 57 = some ⟨.other, 1, 8, [.nilf]⟩ := rfl
theorem zty_58 : zty 58 = some ⟨.other, 1, 8, [.nilf]⟩ := rfl
theorem zty_59 : zty 59 = some ⟨.other, 1, 8, [.nilf]⟩ := rfl
theorem zty_64 : zty 64 = some ⟨.struct [(0, 1), (1, 1), (2, 1)], 3, 32, [.str, .int .i16, .int .i64]⟩ := rfl
theorem zty_65 : zty 65 = some ⟨.struct [(0, 1), (1, 1), (2, 1)], 3, 32, [.str, .int .i16, .int .i64]⟩ := rfl
theorem zty_66 : zty 66 = some ⟨.struct [(0, 1), (1, 1), (2, 1), (3, 1)], 4, 40, [.str, .int .i64, .int .i16, .int .i64]⟩ := rfl
theorem zty_67 : zty 67 = some ⟨.struct [(0, 1), (1, 1), (2, 1), (3, 1)], 4, 40, [.str, .int .i64, .int .i16, .int .i64]⟩ := rfl
theorem zty_68 : zty 68 = some ⟨.struct [(0, 1), (1, 1), (2, 1)], 3, 32, [.str, .int .i64, .int .i64]⟩ := rfl
theorem zty_69 : zty 69 = some ⟨.struct [(0, 1), (1, 1), (2, 1)], 3, 32, [.str, .int .i64, .int .i64]⟩ := rfl
theorem zty_70 : zty 70 = some ⟨.slice 29, 1, 24, [.sl 29 1]⟩ := rfl
theorem zty_71 : zty 71 = some ⟨.slice 151, 1, 24, [.sl 151 2]⟩ := rfl
theorem zty_73 : zty 73 = some ⟨.slice 70, 1, 24, [.sl 70 1]⟩ := rfl
theorem zty_74 : zty 74 = some ⟨.struct [(0, 1), (1, 1)], 2, 48, [.sl 70 1, .sl 70 1]⟩ := rfl
theorem zty_75 : zty 75 = some ⟨.struct [(0, 1), (1, 1)], 2, 48, [.sl 70 1, .sl 70 1]⟩ := rfl
theorem zty_80 : zty 80 = some ⟨.slice 82, 1, 24, [.sl 82 4]⟩ := rfl
theorem zty_81 : zty 81 = some ⟨.struct [(0, 1), (1, 1), (2, 1), (3, 1)], 4, 48, [.int .i64, .int .i16, .sl 29 1, .int .i64]⟩ := rfl
theorem zty_82 : zty 82 = some ⟨.struct [(0, 1), (1, 1), (2, 1), (3, 1)], 4, 48, [.int .i64, .int .i16, .sl 29 1, .int .i64]⟩ := rfl
theorem zty_83 : zty 83 = some ⟨.slice 179, 1, 24, [.sl 179 2]⟩ := rfl
theorem zty_84 : zty 84 = some ⟨.struct [(0, 1), (1, 1), (2, 1)], 3, 56, [.sl 29 1, .sl 179 2, .int .i64]⟩ := rfl
theorem zty_85 : zty 85 = some ⟨.struct [(0, 1), (1, 1), (2, 1)], 3, 56, [.sl 29 1, .sl 179 2, .int .i64]⟩ := rfl
theorem zty_86 : zty 86 = some ⟨.slice 3, 1, 24, [.sl 3 1]⟩ := rfl
theorem zty_87 : zty 87 = some ⟨.struct [(0, 2), (2, 3), (5, 1), (6, 1)], 7, 136, [.sl 70 1, .sl 70 1, .sl 29 1, .sl 179 2, .int .i64, .int .i64, .sl 3 1]⟩ := rfl
theorem zty_88 : zty 88 = some ⟨.struct [(0, 2), (2, 3), (5, 1), (6, 1)], 7, 136, [.sl 70 1, .sl 70 1, .sl 29 1, .sl 179 2, .int .i64, .int .i64, .sl 3 1]⟩ := rfl
theorem zty_89 : zty 89 = some ⟨.int .i64, 1, 8, [.int .i64]⟩ := rfl
theorem zty_100 : zty 100 = some ⟨.map 9 29, 1, 8, [.nilm]⟩ := rfl
theorem zty_102 : zty 102 = some ⟨.struct [(0, 1)], 1, 8, [.nilm]⟩ := rfl
theorem zty_103 : zty 103 = some ⟨.struct [(0, 1)], 1, 8, [.nilm]⟩ := rfl
theorem zty_114 : zty 114 = some ⟨.ptr 117, 1, 8, [.nilp]⟩ := rfl
theorem zty_115 : zty 115 = some ⟨.slice 5, 1, 24, [.sl 5 1]⟩ := rfl
theorem zty_116 : zty 116 = some ⟨.struct [(0, 1), (1, 1)], 2, 32, [.nilp, .sl 5 1]⟩ := rfl
theorem zty_117 : zty 117 = some ⟨.struct [(0, 1), (1, 1)], 2, 32, [.nilp, .sl 5 1]⟩ := rfl
theorem zty_150 : zty 150 = some ⟨.struct [(0, 1), (1, 1)], 2, 24, [.int .i64, .str]⟩ := rfl
theorem zty_151 : zty 151 = some ⟨.struct [(0, 1), (1, 1)], 2, 24, [.int .i64, .str]⟩ := rfl
theorem zty_152 : zty 152 = some ⟨.ptr 154, 1, 8, [.nilp]⟩ := rfl
theorem zty_153 : zty 153 = some ⟨.struct [(0, 6), (6, 1), (7, 1), (8, 1), (9, 1), (10, 1)], 11, 208, [.sl 65 3, .sl 67 4, .sl 9 1, .sl 9 1, .sl 69 3, .sl 41 8, .sl 9 1, .int .i64, .bool, .bool, .sl 151 2]⟩ := rfl
theorem zty_154 : zty 154 = some ⟨.struct [(0, 6), (6, 1), (7, 1), (8, 1), (9, 1), (10, 1)], 11, 208, [.sl 65 3, .sl 67 4, .sl 9 1, .sl 9 1, .sl 69 3, .sl 41 8, .sl 9 1, .int .i64, .bool, .bool, .sl 151 2]⟩ := rfl
theorem zty_155 : zty 155 = some ⟨.slice 158, 1, 24, [.sl 158 4]⟩ := rfl
theorem zty_157 : zty 157 = some ⟨.struct [(0, 1), (1, 1), (2, 1), (3, 1)], 4, 40, [.str, .int .i64, .int .i64, .int .i64]⟩ := rfl
theorem zty_158 : zty 158 = some ⟨.struct [(0, 1), (1, 1), (2, 1), (3, 1)], 4, 40, [.str, .int .i64, .int .i64, .int .i64]⟩ := rfl
theorem zty_163 : zty 163 = some ⟨.ptr 167, 1, 8, [.nilp]⟩ := rfl
theorem zty_165 : zty 165 = some ⟨.slice 172, 1, 24, [.sl 172 2]⟩ := rfl
theorem zty_166 : zty 166 = some ⟨.struct [(0, 6), (6, 7), (13, 1), (14, 1), (15, 1)], 16, 336, [.sl 65 3, .sl 67 4, .sl 9 1, .sl 9 1, .sl 69 3, .sl 41 8, .sl 70 1, .sl 70 1, .sl 29 1, .sl 179 2, .int .i64, .int .i64, .sl 3 1, .sl 29 1, .sl 172 2, .int .i64]⟩ := rfl
theorem zty_167 : zty 167 = some ⟨.struct [(0, 6), (6, 7), (13, 1), (14, 1), (15, 1)], 16, 336, [.sl 65 3, .sl 67 4, .sl 9 1, .sl 9 1, .sl 69 3, .sl 41 8, .sl 70 1, .sl 70 1, .sl 29 1, .sl 179 2, .int .i64, .int .i64, .sl 3 1, .sl 29 1, .sl 172 2, .int .i64]⟩ := rfl
theorem zty_170 : zty 170 = some ⟨.ptr 75, 1, 8, [.nilp]⟩ := rfl
theorem zty_171 : zty 171 = some ⟨.struct [(0, 1), (1, 1)], 2, 24, [.str, .int .i16]⟩ := rfl
theorem zty_172 : zty 172 = some ⟨.struct [(0, 1), (1, 1)], 2, 24, [.str, .int .i16]⟩ := rfl
theorem zty_173 : zty 173 = some ⟨.int .i64, 1, 8, [.int .i64]⟩ := rfl
theorem zty_178 : zty 178 = some ⟨.struct [(0, 1), (1, 1)], 2, 16, [.int .i64, .int .i16]⟩ := rfl
theorem zty_179 : zty 179 = some ⟨.struct [(0, 1), (1, 1)], 2, 16, [.int .i64, .int .i16]⟩ := rfl
theorem zty_183 : zty 183 = some ⟨.struct [(0, 1), (1, 1), (2, 1), (3, 1), (4, 1)], 5, 16, [.bool, .bool, .bool, .bool, .int .i64]⟩ := rfl
theorem zty_184 : zty 184 = some ⟨.struct [(0, 1), (1, 1), (2, 1), (3, 1), (4, 1)], 5, 16, [.bool, .bool, .bool, .bool, .int .i64]⟩ := rfl
theorem zty_195 : zty 195 = some ⟨.ptr 5, 1, 8, [.nilp]⟩ := rfl
theorem zty_199 : zty 199 = some ⟨.array 16 9, 16, 256, [.str, .str, .str, .str, .str, .str, .str, .str, .str, .str, .str, .str, .str, .str, .str, .str]⟩ := rfl
theorem zty_202 : zty 202 = some ⟨.array 16 3, 16, 128, [.int .i64, .int .i64, .int .i64, .int .i64, .int .i64, .int .i64, .int .i64, .int .i64, .int .i64, .int .i64, .int .i64, .int .i64, .int .i64, .int .i64, .int .i64, .int .i64]⟩ := rfl
theorem zty_204 : zty 204 = some ⟨.slice 24, 1, 24, [.sl 24 1]⟩ := rfl
theorem zty_217 : zty 217 = some ⟨.ptr 29, 1, 8, [.nilp]⟩ := rfl
theorem zty_225 : zty 225 = some ⟨.struct [(0, 1), (1, 1), (2, 1), (3, 1), (4, 1)], 5, 16, [.bool, .bool, .bool, .bool, .int .i64]⟩ := rfl
theorem zty_226 : zty 226 = some ⟨.struct [(0, 1), (1, 1), (2, 1), (3, 1), (4, 1)], 5, 16, [.bool, .bool, .bool, .bool, .int .i64]⟩ := rfl
theorem zty_227 : zty 227 = some ⟨.array 14 226, 70, 224, [.bool, .bool, .bool, .bool, .int .i64, .bool, .bool, .bool, .bool, .int .i64, .bool, .bool, .bool, .bool, .int .i64, .bool, .bool, .bool, .bool, .int .i64, .bool, .bool, .bool, .bool, .int .i64, .bool, .bool, .bool, .bool, .int .i64, .bool, .bool, .bool, .bool, .int .i64, .bool, .bool, .bool, .bool, .int .i64, .bool, .bool, .bool, .bool, .int .i64, .bool, .bool, .bool, .bool, .int .i64, .bool, .bool, .bool, .bool, .int .i64, .bool, .bool, .bool, .bool, .int .i64, .bool, .bool, .bool, .bool, .int .i64, .bool, .bool, .bool, .bool, .int .i64]⟩ := rfl
theorem zty_234 : zty 234 = some ⟨.ptr 172, 1, 8, [.nilp]⟩ := rfl
theorem zty_239 : zty 239 = some ⟨.struct [(0, 1), (1, 1), (2, 1), (3, 1)], 4, 40, [.str, .int .i64, .int .i64, .int .i64]⟩ := rfl
theorem zty_240 : zty 240 = some ⟨.struct [(0, 1), (1, 1), (2, 1), (3, 1)], 4, 40, [.str, .int .i64, .int .i64, .int .i64]⟩ := rfl
theorem zty_242 : zty 242 = some ⟨.map 9 240, 1, 8, [.nilm]⟩ := rfl
theorem zty_245 : zty 245 = some ⟨.array 24 5, 24, 24, [.int .u8, .int .u8, .int .u8, .int .u8, .int .u8, .int .u8, .int .u8, .int .u8, .int .u8, .int .u8, .int .u8, .int .u8, .int .u8, .int .u8, .int .u8, .int .u8, .int .u8, .int .u8, .int .u8, .int .u8, .int .u8, .int .u8, .int .u8, .int .u8]⟩ := rfl
theorem zty_246 : zty 246 = some ⟨.int .u64, 1, 8, [.int .u64]⟩ := rfl
theorem zty_251 : zty 251 = some ⟨.array 256 5, 256, 256, [.int .u8, .int .u8, .int .u8, .int .u8, .int .u8, .int .u8, .int .u8, .int .u8, .int .u8, .int .u8, .int .u8, .int .u8, .int .u8, .int .u8, .int .u8, .int .u8, .int .u8, .int .u8, .int .u8, .int .u8, .int .u8, .int .u8, .int .u8, .int .u8, .int .u8, .int .u8, .int .u8, .int .u8, .int .u8, .int .u8, .int .u8, .int .u8, .int .u8, .int .u8, .int .u8, .int .u8, .int .u8, .int .u8, .int .u8, .int .u8, .int .u8, .int .u8, .int .u8, .int .u8, .int .u8, .int .u8, .int .u8, .int .u8, .int .u8, .int .u8, .int .u8, .int .u8, .int .u8, .int .u8, .int .u8, .int .u8, .int .u8, .int .u8, .int .u8, .int .u8, .int .u8, .int .u8, .int .u8, .int .u8, .int .u8, .int .u8, .int .u8, .int .u8, .int .u8, .int .u8, .int .u8, .int .u8, .int .u8, .int .u8, .int .u8, .int .u8, .int .u8, .int .u8, .int .u8, .int .u8, .int .u8, .int .u8, .int .u8, .int .u8, .int .u8, .int .u8, .int .u8, .int .u8, .int .u8, .int .u8, .int .u8, .int .u8, .int .u8, .int .u8, .int .u8, .int .u8, .int .u8, .int .u8, .int .u8, .int .u8, .int .u8, .int .u8, .int .u8, .int .u8, .int .u8, .int .u8, .int .u8, .int .u8, .int .u8, .int .u8, .int .u8, .int .u8, .int .u8, .int .u8, .int .u8, .int .u8, .int .u8, .int .u8, .int .u8, .int .u8, .int .u8, .int .u8, .int .u8, .int .u8, .int .u8, .int .u8, .int .u8, .int .u8, .int .u8, .int .u8, .int .u8, .int .u8, .int .u8, .int .u8, .int .u8, .int .u8, .int .u8, .int .u8, .int .u8, .int .u8, .int .u8, .int .u8, .int .u8, .int .u8, .int .u8, .int .u8, .int .u8, .int .u8, .int .u8, .int .u8, .int .u8, .int .u8, .int .u8, .int .u8, .int .u8, .int .u8, .int .u8, .int .u8, .int .u8, .int .u8, .int .u8, .int .u8, .int .u8, .int .u8, .int .u8, .int .u8, .int .u8, .int .u8, .int .u8, .int .u8, .int .u8, .int .u8, .int .u8, .int .u8, .int .u8, .int .u8, .int .u8, .int .u8, .int .u8, .int .u8, .int .u8, .int .u8, .int .u8, .int .u8, .int .u8, .int .u8, .int .u8, .int .u8, .int .u8, .int .u8, .int .u8, .int .u8, .int .u8, .int .u8, .int .u8, .int .u8, .int .u8, .int .u8, .int .u8, .int .u8, .int .u8, .int .u8, .int .u8, .int .u8, .int .u8, .int .u8, .int .u8, .int .u8, .int .u8, .int .u8, .int .u8, .int .u8, .int .u8, .int .u8, .int .u8, .int .u8, .int .u8, .int .u8, .int .u8, .int .u8, .int .u8, .int .u8, .int .u8, .int .u8, .int .u8, .int .u8, .int .u8, .int .u8, .int .u8, .int .u8, .int .u8, .int .u8, .int .u8, .int .u8, .int .u8, .int .u8, .int .u8, .int .u8, .int .u8, .int .u8, .int .u8, .int .u8, .int .u8, .int .u8, .int .u8, .int .u8, .int .u8, .int .u8, .int .u8, .int .u8, .int .u8, .int .u8, .int .u8, .int .u8, .int .u8, .int .u8]⟩ := rfl
theorem zty_256 : zty 256 = some ⟨.int .u16, 1, 2, [.int .u16]⟩ := rfl
theorem zty_260 : zty 260 = some ⟨.slice 240, 1, 24, [.sl 240 4]⟩ := rfl
theorem zty_262 : zty 262 = some ⟨.array 20 246, 20, 160, [.int .u64, .int .u64, .int .u64, .int .u64, .int .u64, .int .u64, .int .u64, .int .u64, .int .u64, .int .u64, .int .u64, .int .u64, .int .u64, .int .u64, .int .u64, .int .u64, .int .u64, .int .u64, .int .u64, .int .u64]⟩ := rfl
theorem zty_263 : zty 263 = some ⟨.int .u32, 1, 4, [.int .u32]⟩ := rfl
theorem zty_264 : zty 264 = some ⟨.array 65 5, 65, 65, [.int .u8, .int .u8, .int .u8, .int .u8, .int .u8, .int .u8, .int .u8, .int .u8, .int .u8, .int .u8, .int .u8, .int .u8, .int .u8, .int .u8, .int .u8, .int .u8, .int .u8, .int .u8, .int .u8, .int .u8, .int .u8, .int .u8, .int .u8, .int .u8, .int .u8, .int .u8, .int .u8, .int .u8, .int .u8, .int .u8, .int .u8, .int .u8, .int .u8, .int .u8, .int .u8, .int .u8, .int .u8, .int .u8, .int .u8, .int .u8, .int .u8, .int .u8, .int .u8, .int .u8, .int .u8, .int .u8, .int .u8, .int .u8, .int .u8, .int .u8, .int .u8, .int .u8, .int .u8, .int .u8, .int .u8, .int .u8, .int .u8, .int .u8, .int .u8, .int .u8, .int .u8, .int .u8, .int .u8, .int .u8, .int .u8]⟩ := rfl
theorem zty_265 : zty 265 = some ⟨.int .u64, 1, 8, [.int .u64]⟩ := rfl
theorem zty_267 : zty 267 = some ⟨.slice 269, 1, 24, [.sl 269 2]⟩ := rfl
theorem zty_268 : zty 268 = some ⟨.struct [(0, 1), (1, 1)], 2, 16, [.int .i64, .int .i64]⟩ := rfl
theorem zty_269 : zty 269 = some ⟨.struct [(0, 1), (1, 1)], 2, 16, [.int .i64, .int .i64]⟩ := rfl
theorem zty_271 : zty 271 = some ⟨.ptr 277, 1, 8, [.nilp]⟩ := rfl
theorem zty_274 : zty 274 = some ⟨.slice 279, 1, 24, [.sl 279 3]⟩ := rfl
theorem zty_275 : zty 275 = some ⟨.slice 282, 1, 24, [.sl 282 3]⟩ := rfl
theorem zty_276 : zty 276 = some ⟨.struct [(0, 1), (1, 1), (2, 1)], 3, 56, [.sl 279 3, .sl 282 3, .int .i64]⟩ := rfl
theorem zty_277 : zty 277 = some ⟨.struct [(0, 1), (1, 1), (2, 1)], 3, 56, [.sl 279 3, .sl 282 3, .int .i64]⟩ := rfl
theorem zty_278 : zty 278 = some ⟨.struct [(0, 1), (1, 1), (2, 1)], 3, 6, [.int .u16, .int .u16, .int .u16]⟩ := rfl
theorem zty_279 : zty 279 = some ⟨.struct [(0, 1), (1, 1), (2, 1)], 3, 6, [.int .u16, .int .u16, .int .u16]⟩ := rfl
theorem zty_281 : zty 281 = some ⟨.struct [(0, 1), (1, 1), (2, 1)], 3, 12, [.int .u32, .int .u32, .int .u32]⟩ := rfl
theorem zty_282 : zty 282 = some ⟨.struct [(0, 1), (1, 1), (2, 1)], 3, 12, [.int .u32, .int .u32, .int .u32]⟩ := rfl
theorem zty_284 : zty 284 = some ⟨.array 32 5, 32, 32, [.int .u8, .int .u8, .int .u8, .int .u8, .int .u8, .int .u8, .int .u8, .int .u8, .int .u8, .int .u8, .int .u8, .int .u8, .int .u8, .int .u8, .int .u8, .int .u8, .int .u8, .int .u8, .int .u8, .int .u8, .int .u8, .int .u8, .int .u8, .int .u8, .int .u8, .int .u8, .int .u8, .int .u8, .int .u8, .int .u8, .int .u8, .int .u8]⟩ := rfl
theorem zty_285 : zty 285 = some ⟨.array 64 5, 64, 64, [.int .u8, .int .u8, .int .u8, .int .u8, .int .u8, .int .u8, .int .u8, .int .u8, .int .u8, .int .u8, .int .u8, .int .u8, .int .u8, .int .u8, .int .u8, .int .u8, .int .u8, .int .u8, .int .u8, .int .u8, .int .u8, .int .u8, .int .u8, .int .u8, .int .u8, .int .u8, .int .u8, .int .u8, .int .u8, .int .u8, .int .u8, .int .u8, .int .u8, .int .u8, .int .u8, .int .u8, .int .u8, .int .u8, .int .u8, .int .u8, .int .u8, .int .u8, .int .u8, .int .u8, .int .u8, .int .u8, .int .u8, .int .u8, .int .u8, .int .u8, .int .u8, .int .u8, .int .u8, .int .u8, .int .u8, .int .u8, .int .u8, .int .u8, .int .u8, .int .u8, .int .u8, .int .u8, .int .u8, .int .u8]⟩ := rfl
theorem zty_286 : zty 286 = some ⟨.ptr 279, 1, 8, [.nilp]⟩ := rfl
theorem zty_287 : zty 287 = some ⟨.ptr 282, 1, 8, [.nilp]⟩ := rfl
theorem zty_288 : zty 288 = some ⟨.struct [(0, 1), (1, 1), (2, 1), (3, 1)], 4, 40, [.nilp, .nilp, .nilp, .str]⟩ := rfl
theorem zty_289 : zty 289 = some ⟨.struct [(0, 1), (1, 1), (2, 1), (3, 1)], 4, 40, [.nilp, .nilp, .nilp, .str]⟩ := rfl
theorem zty_294 : zty 294 = some ⟨.int .u8, 1, 1, [.int .u8]⟩ := rfl
theorem zty_295 : zty 295 = some ⟨.int .u8, 1, 1, [.int .u8]⟩ := rfl
theorem zty_297 : zty 297 = some ⟨.int .i32, 1, 4, [.int .i32]⟩ := rfl
theorem zty_298 : zty 298 = some ⟨.int .i32, 1, 4, [.int .i32]⟩ := rfl
theorem zty_299 : zty 299 = some ⟨.struct [(0, 1), (1, 1), (2, 1), (3, 1), (4, 1), (5, 1), (6, 1), (7, 1), (8, 1), (9, 1), (10, 1)], 11, 48, [.int .u64, .int .u64, .int .u32, .int .u8, .int .u8, .int .u8, .int .u8, .nilf, .nilp, .int .i32, .int .i32]⟩ := rfl
end Go.Proofs.Am
