/-
  THE ENGINE, T: the table of this translation's types, written by program (gentab.lean), checked by the kernel.
-/
import Derived.Test.YtnfeacnbgbggfaaGreatDoorE4
import Derived.Test.YtnfeacnbgbggfaaGreatDoorProg
import Derived.KernelRfl
set_option linter.all false
section
namespace Go.Proofs.YtnfeacnbgbggfaaGreatDoor
open Go.Eng
variable [aE]
abbrev pN : Pl := ⟨.n, 0, [], [], []⟩
/-- The types of the translation. -/
def XC : List (Nat × Ti) := [
 (1, { size := 1, agg := false, zero := [.nilFunc], bytes := 8 }),
 (2, { size := 1, agg := false, zero := [.int .i64 0], bytes := 8 }),
 (3, { size := 1, agg := false, zero := [.int .i64 0], bytes := 8 }),
 (4, { size := 1, agg := false, zero := [.bool false], bytes := 1 }),
 (5, { size := 1, agg := false, zero := [.int .u8 0], bytes := 1 }),
 (6, { size := 1, agg := false, zero := [.int .u8 0], bytes := 1 }),
 (7, { size := 4, agg := true, zero := [.int .i64 0, .int .i64 0, .bool false, .int .u8 0], bm := [(0, 1), (1, 1), (2, 1), (3, 1)], bytes := 24 }),
 (8, { size := 4, agg := true, zero := [.int .i64 0, .int .i64 0, .bool false, .int .u8 0], bm := [(0, 1), (1, 1), (2, 1), (3, 1)], bytes := 24 }),
 (9, { size := 1, agg := false, zero := [.string ⟨#[]⟩], bytes := 16 }),
 (10, { size := 1, agg := false, zero := [.string ⟨#[]⟩], bytes := 16 }),
 (11, { size := 1, agg := false, zero := [.string ⟨#[]⟩], bytes := 16 }),
 (12, { size := 1, agg := false, zero := [.int .u64 0], bytes := 8 }),
 (13, { size := 2, agg := true, zero := [.string ⟨#[]⟩, .int .u64 0], bm := [(0, 1), (1, 1)], bytes := 24 }),
 (14, { size := 2, agg := true, zero := [.string ⟨#[]⟩, .int .u64 0], bm := [(0, 1), (1, 1)], bytes := 24 }),
 (15, { size := 1, agg := false, zero := [.pointer none], bytes := 8 }),
 (16, { size := 1, agg := false, zero := [.pointer none], bytes := 8 }),
 (17, { size := 1, agg := false, zero := [.pointer none], bytes := 8 }),
 (18, { size := 1, agg := true, zero := [.pointer none], bm := [(0, 1)], bytes := 8 }),
 (19, { size := 1, agg := true, zero := [.pointer none], bm := [(0, 1)], bytes := 8 }),
 (20, { size := 1, agg := false, zero := [.nilIface], bytes := 16 }),
 (21, { size := 1, agg := false, zero := [.int .i32 0], bytes := 4 }),
 (22, { size := 1, agg := false, zero := [.slice none 0 0], elem := some 40, bytes := 24 }),
 (23, { size := 1, agg := false, zero := [.slice none 0 0], elem := some 233, bytes := 24 }),
 (24, { size := 2, agg := true, zero := [.slice none 0 0, .slice none 0 0], bm := [(0, 1), (1, 1)], bytes := 48 }),
 (25, { size := 2, agg := true, zero := [.slice none 0 0, .slice none 0 0], bm := [(0, 1), (1, 1)], bytes := 48 }),
 (26, { size := 1, agg := false, zero := [.slice none 0 0], elem := some 51, bytes := 24 }),
 (27, { size := 1, agg := false, zero := [.slice none 0 0], elem := some 54, bytes := 24 }),
 (28, { size := 1, agg := false, zero := [.nilFunc], bytes := 8 }),
 (29, { size := 1, agg := false, zero := [.nilFunc], bytes := 8 }),
 (30, { size := 1, agg := false, zero := [.nilFunc], bytes := 8 }),
 (31, { size := 1, agg := false, zero := [.nilFunc], bytes := 8 }),
 (32, { size := 1, agg := false, zero := [.nilFunc], bytes := 8 }),
 (33, { size := 1, agg := false, zero := [.nilFunc], bytes := 8 }),
 (34, { size := 1, agg := false, zero := [.int .i64 0], bytes := 8 }),
 (35, { size := 1, agg := false, zero := [.nilFunc], bytes := 8 }),
 (36, { size := 1, agg := false, zero := [.nilFunc], bytes := 8 }),
 (37, { size := 3, agg := true, zero := [.int .i64 0, .int .i64 0, .int .i64 0], bm := [(0, 1), (1, 1), (2, 1)], bytes := 24 }),
 (38, { size := 3, agg := true, zero := [.int .i64 0, .int .i64 0, .int .i64 0], bm := [(0, 1), (1, 1), (2, 1)], bytes := 24 }),
 (39, { size := 9, agg := true, zero := [.string ⟨#[]⟩, .int .i64 0, .int .i64 0, .int .i64 0, .slice none 0 0, .string ⟨#[]⟩, .string ⟨#[]⟩, .string ⟨#[]⟩, .bool false], bm := [(0, 1), (1, 3), (4, 1), (5, 1), (6, 1), (7, 1), (8, 1)], bytes := 120 }),
 (40, { size := 9, agg := true, zero := [.string ⟨#[]⟩, .int .i64 0, .int .i64 0, .int .i64 0, .slice none 0 0, .string ⟨#[]⟩, .string ⟨#[]⟩, .string ⟨#[]⟩, .bool false], bm := [(0, 1), (1, 3), (4, 1), (5, 1), (6, 1), (7, 1), (8, 1)], bytes := 120 }),
 (42, { size := 1, agg := false, zero := [.nilFunc], bytes := 8 }),
 (44, { size := 1, agg := false, zero := [.nilFunc], bytes := 8 }),
 (45, { size := 1, agg := false, zero := [.nilFunc], bytes := 8 }),
 (46, { size := 1, agg := false, zero := [.nilFunc], bytes := 8 }),
 (47, { size := 1, agg := false, zero := [.nilFunc], bytes := 8 }),
 (48, { size := 1, agg := false, zero := [.slice none 0 0], elem := some 78, bytes := 24 }),
 (49, { size := 1, agg := false, zero := [.slice none 0 0], elem := some 78, bytes := 24 }),
 (50, { size := 2, agg := true, zero := [.string ⟨#[]⟩, .slice none 0 0], bm := [(0, 1), (1, 1)], bytes := 40 }),
 (51, { size := 2, agg := true, zero := [.string ⟨#[]⟩, .slice none 0 0], bm := [(0, 1), (1, 1)], bytes := 40 }),
 (52, { size := 1, agg := false, zero := [.nilFunc], bytes := 8 }),
 (53, { size := 4, agg := true, zero := [.string ⟨#[]⟩, .int .i64 0, .int .i64 0, .int .i64 0], bm := [(0, 1), (1, 3)], bytes := 40 }),
 (54, { size := 4, agg := true, zero := [.string ⟨#[]⟩, .int .i64 0, .int .i64 0, .int .i64 0], bm := [(0, 1), (1, 3)], bytes := 40 }),
 (56, { size := 1, agg := false, zero := [.nilFunc], bytes := 8 }),
 (58, { size := 1, agg := false, zero := [.nilFunc], bytes := 8 }),
 (59, { size := 1, agg := false, zero := [.nilFunc], bytes := 8 }),
 (60, { size := 1, agg := false, zero := [.nilFunc], bytes := 8 }),
 (61, { size := 1, agg := false, zero := [.nilFunc], bytes := 8 }),
 (62, { size := 1, agg := false, zero := [.nilFunc], bytes := 8 }),
 (63, { size := 1, agg := false, zero := [.nilFunc], bytes := 8 }),
 (64, { size := 1, agg := false, zero := [.nilFunc], bytes := 8 }),
 (65, { size := 1, agg := false, zero := [.nilFunc], bytes := 8 }),
 (66, { size := 1, agg := false, zero := [.nilFunc], bytes := 8 }),
 (67, { size := 1, agg := false, zero := [.nilFunc], bytes := 8 }),
 (68, { size := 1, agg := false, zero := [.slice none 0 0], elem := some 38, bytes := 24 }),
 (69, { size := 1, agg := false, zero := [.nilFunc], bytes := 8 }),
 (70, { size := 1, agg := false, zero := [.nilFunc], bytes := 8 }),
 (71, { size := 1, agg := false, zero := [.slice none 0 0], elem := some 9, bytes := 24 }),
 (72, { size := 1, agg := false, zero := [.nilFunc], bytes := 8 }),
 (73, { size := 1, agg := false, zero := [.nilFunc], bytes := 8 }),
 (74, { size := 1, agg := false, zero := [.nilFunc], bytes := 8 }),
 (75, { size := 1, agg := false, zero := [.nilFunc], bytes := 8 }),
 (76, { size := 1, agg := false, zero := [.nilFunc], bytes := 8 }),
 (77, { size := 2, agg := true, zero := [.int .i64 0, .int .i64 0], bm := [(0, 1), (1, 1)], bytes := 16 }),
 (78, { size := 2, agg := true, zero := [.int .i64 0, .int .i64 0], bm := [(0, 1), (1, 1)], bytes := 16 }),
 (79, { size := 1, agg := false, zero := [.map none], bytes := 8 }),
 (80, { size := 1, agg := false, zero := [.map none], bytes := 8 }),
 (81, { size := 2, agg := true, zero := [.map none, .map none], bm := [(0, 1), (1, 1)], bytes := 16 }),
 (82, { size := 2, agg := true, zero := [.map none, .map none], bm := [(0, 1), (1, 1)], bytes := 16 }),
 (84, { size := 1, agg := false, zero := [.nilFunc], bytes := 8 }),
 (85, { size := 1, agg := false, zero := [.map none], bytes := 8 }),
 (86, { size := 1, agg := false, zero := [.nilFunc], bytes := 8 }),
 (87, { size := 1, agg := false, zero := [.nilFunc], bytes := 8 }),
 (88, { size := 1, agg := false, zero := [.slice none 0 0], elem := some 4, bytes := 24 }),
 (89, { size := 1, agg := false, zero := [.nilFunc], bytes := 8 }),
 (91, { size := 1, agg := false, zero := [.nilFunc], bytes := 8 }),
 (92, { size := 1, agg := false, zero := [.map none], bytes := 8 }),
 (93, { size := 1, agg := false, zero := [.map none], bytes := 8 }),
 (94, { size := 1, agg := false, zero := [.nilFunc], bytes := 8 }),
 (95, { size := 1, agg := false, zero := [.nilFunc], bytes := 8 }),
 (96, { size := 1, agg := false, zero := [.slice none 0 0], elem := some 3, bytes := 24 }),
 (97, { size := 1, agg := false, zero := [.nilFunc], bytes := 8 }),
 (98, { size := 1, agg := false, zero := [.nilFunc], bytes := 8 }),
 (99, { size := 1, agg := false, zero := [.nilFunc], bytes := 8 }),
 (100, { size := 1, agg := false, zero := [.nilFunc], bytes := 8 }),
 (101, { size := 1, agg := false, zero := [.nilFunc], bytes := 8 }),
 (102, { size := 1, agg := false, zero := [.nilFunc], bytes := 8 }),
 (103, { size := 1, agg := false, zero := [.nilFunc], bytes := 8 }),
 (104, { size := 1, agg := false, zero := [.pointer none], bytes := 8 }),
 (105, { size := 1, agg := false, zero := [.nilFunc], bytes := 8 }),
 (106, { size := 1, agg := false, zero := [.nilFunc], bytes := 8 }),
 (108, { size := 1, agg := false, zero := [.nilFunc], bytes := 8 }),
 (109, { size := 1, agg := false, zero := [.nilFunc], bytes := 8 }),
 (110, { size := 1, agg := false, zero := [.nilFunc], bytes := 8 }),
 (111, { size := 1, agg := false, zero := [.nilFunc], bytes := 8 }),
 (113, { size := 1, agg := false, zero := [.nilFunc], bytes := 8 }),
 (115, { size := 1, agg := false, zero := [.nilFunc], bytes := 8 }),
 (117, { size := 1, agg := false, zero := [.nilFunc], bytes := 8 }),
 (118, { size := 1, agg := false, zero := [.nilFunc], bytes := 8 }),
 (119, { size := 1, agg := false, zero := [.nilFunc], bytes := 8 }),
 (120, { size := 1, agg := false, zero := [.nilFunc], bytes := 8 }),
 (121, { size := 1, agg := false, zero := [.nilFunc], bytes := 8 }),
 (122, { size := 1, agg := false, zero := [.nilFunc], bytes := 8 }),
 (123, { size := 1, agg := false, zero := [.nilFunc], bytes := 8 }),
 (124, { size := 1, agg := false, zero := [.nilFunc], bytes := 8 }),
 (125, { size := 1, agg := false, zero := [.nilFunc], bytes := 8 }),
 (126, { size := 1, agg := false, zero := [.nilFunc], bytes := 8 }),
 (127, { size := 1, agg := false, zero := [.nilFunc], bytes := 8 }),
 (128, { size := 1, agg := false, zero := [.slice none 0 0], elem := some 27, bytes := 24 }),
 (129, { size := 1, agg := false, zero := [.nilFunc], bytes := 8 }),
 (130, { size := 1, agg := false, zero := [.nilFunc], bytes := 8 }),
 (131, { size := 1, agg := false, zero := [.nilFunc], bytes := 8 }),
 (132, { size := 1, agg := false, zero := [.nilFunc], bytes := 8 }),
 (133, { size := 1, agg := false, zero := [.nilFunc], bytes := 8 }),
 (134, { size := 1, agg := false, zero := [.nilFunc], bytes := 8 }),
 (135, { size := 1, agg := false, zero := [.nilFunc], bytes := 8 }),
 (136, { size := 1, agg := false, zero := [.int .u64 0], bytes := 8 }),
 (137, { size := 1, agg := false, zero := [.nilFunc], bytes := 8 }),
 (138, { size := 1, agg := false, zero := [.nilFunc], bytes := 8 }),
 (139, { size := 3, agg := true, zero := [.string ⟨#[]⟩, .int .i64 0, .int .i64 0], bm := [(0, 1), (1, 1), (2, 1)], bytes := 32 }),
 (140, { size := 3, agg := true, zero := [.string ⟨#[]⟩, .int .i64 0, .int .i64 0], bm := [(0, 1), (1, 1), (2, 1)], bytes := 32 }),
 (141, { size := 1, agg := false, zero := [.nilFunc], bytes := 8 }),
 (142, { size := 1, agg := false, zero := [.nilFunc], bytes := 8 }),
 (143, { size := 1, agg := false, zero := [.nilFunc], bytes := 8 }),
 (144, { size := 1, agg := false, zero := [.nilFunc], bytes := 8 }),
 (145, { size := 1, agg := false, zero := [.nilFunc], bytes := 8 }),
 (146, { size := 1, agg := false, zero := [.nilFunc], bytes := 8 }),
 (148, { size := 1, agg := false, zero := [.nilFunc], bytes := 8 }),
 (149, { size := 1, agg := false, zero := [.nilFunc], bytes := 8 }),
 (150, { size := 1, agg := false, zero := [.nilFunc], bytes := 8 }),
 (151, { size := 3, agg := true, zero := [.int .i64 0, .int .i64 0, .int .i64 0], bytes := 24 }),
 (152, { size := 1, agg := false, zero := [.nilFunc], bytes := 8 }),
 (153, { size := 1, agg := false, zero := [.nilFunc], bytes := 8 }),
 (154, { size := 1, agg := false, zero := [.nilFunc], bytes := 8 }),
 (155, { size := 1, agg := false, zero := [.nilFunc], bytes := 8 }),
 (156, { size := 1, agg := false, zero := [.int .u64 0], bytes := 8 }),
 (157, { size := 1, agg := false, zero := [.nilFunc], bytes := 8 }),
 (158, { size := 1, agg := false, zero := [.nilFunc], bytes := 8 }),
 (159, { size := 1, agg := false, zero := [.slice none 0 0], elem := some 5, bytes := 24 }),
 (160, { size := 1, agg := false, zero := [.nilFunc], bytes := 8 }),
 (161, { size := 1, agg := false, zero := [.nilFunc], bytes := 8 }),
 (163, { size := 1, agg := false, zero := [.nilFunc], bytes := 8 }),
 (164, { size := 1, agg := false, zero := [.nilFunc], bytes := 8 }),
 (165, { size := 1, agg := false, zero := [.nilFunc], bytes := 8 }),
 (166, { size := 1, agg := false, zero := [.nilFunc], bytes := 8 }),
 (167, { size := 1, agg := false, zero := [.nilFunc], bytes := 8 }),
 (168, { size := 1, agg := false, zero := [.pointer none], bytes := 8 }),
 (169, { size := 1, agg := false, zero := [.nilFunc], bytes := 8 }),
 (170, { size := 1, agg := false, zero := [.nilFunc], bytes := 8 }),
 (171, { size := 1, agg := false, zero := [.nilFunc], bytes := 8 }),
 (172, { size := 1, agg := false, zero := [.int .i64 0], bytes := 8 }),
 (174, { size := 1, agg := false, zero := [.nilFunc], bytes := 8 }),
 (175, { size := 1, agg := false, zero := [.nilFunc], bytes := 8 }),
 (176, { size := 1, agg := false, zero := [.nilFunc], bytes := 8 }),
 (177, { size := 1, agg := false, zero := [.nilFunc], bytes := 8 }),
 (178, { size := 1, agg := false, zero := [.nilFunc], bytes := 8 }),
 (179, { size := 1, agg := false, zero := [.nilFunc], bytes := 8 }),
 (180, { size := 1, agg := false, zero := [.int .u32 0], bytes := 4 }),
 (181, { size := 1, agg := false, zero := [.nilFunc], bytes := 8 }),
 (182, { size := 1, agg := false, zero := [.nilFunc], bytes := 8 }),
 (183, { size := 1, agg := false, zero := [.nilFunc], bytes := 8 }),
 (185, { size := 1, agg := false, zero := [.nilFunc], bytes := 8 }),
 (187, { size := 1, agg := false, zero := [.nilFunc], bytes := 8 }),
 (188, { size := 1, agg := false, zero := [.nilFunc], bytes := 8 }),
 (189, { size := 1, agg := false, zero := [.int .u64 0], bytes := 8 }),
 (190, { size := 1, agg := false, zero := [.nilFunc], bytes := 8 }),
 (191, { size := 1, agg := false, zero := [.nilFunc], bytes := 8 }),
 (192, { size := 1, agg := false, zero := [.nilFunc], bytes := 8 }),
 (193, { size := 1, agg := false, zero := [.pointer none], bytes := 8 }),
 (194, { size := 1, agg := false, zero := [.nilFunc], bytes := 8 }),
 (195, { size := 1, agg := false, zero := [.nilFunc], bytes := 8 }),
 (196, { size := 1, agg := false, zero := [.nilFunc], bytes := 8 }),
 (197, { size := 1, agg := false, zero := [.nilFunc], bytes := 8 }),
 (198, { size := 1, agg := false, zero := [.nilFunc], bytes := 8 }),
 (199, { size := 1, agg := false, zero := [.nilFunc], bytes := 8 }),
 (200, { size := 1, agg := false, zero := [.nilFunc], bytes := 8 }),
 (201, { size := 1, agg := false, zero := [.pointer none], bytes := 8 }),
 (203, { size := 1, agg := false, zero := [.nilFunc], bytes := 8 }),
 (204, { size := 1, agg := false, zero := [.nilFunc], bytes := 8 }),
 (205, { size := 1, agg := false, zero := [.nilFunc], bytes := 8 }),
 (207, { size := 1, agg := false, zero := [.nilFunc], bytes := 8 }),
 (208, { size := 1, agg := false, zero := [.nilFunc], bytes := 8 }),
 (209, { size := 1, agg := false, zero := [.nilFunc], bytes := 8 }),
 (210, { size := 1, agg := false, zero := [.nilFunc], bytes := 8 }),
 (212, { size := 2, agg := true, zero := [.int .u8 0, .int .u8 0], bm := [(0, 1), (1, 1)], bytes := 2 }),
 (213, { size := 2, agg := true, zero := [.int .u8 0, .int .u8 0], bm := [(0, 1), (1, 1)], bytes := 2 }),
 (214, { size := 32, agg := true, zero := [.int .u8 0, .int .u8 0, .int .u8 0, .int .u8 0, .int .u8 0, .int .u8 0, .int .u8 0, .int .u8 0, .int .u8 0, .int .u8 0, .int .u8 0, .int .u8 0, .int .u8 0, .int .u8 0, .int .u8 0, .int .u8 0, .int .u8 0, .int .u8 0, .int .u8 0, .int .u8 0, .int .u8 0, .int .u8 0, .int .u8 0, .int .u8 0, .int .u8 0, .int .u8 0, .int .u8 0, .int .u8 0, .int .u8 0, .int .u8 0, .int .u8 0, .int .u8 0], bytes := 32 }),
 (215, { size := 4, agg := true, zero := [.pointer none, .pointer none, .pointer none, .string ⟨#[]⟩], bm := [(0, 1), (1, 1), (2, 1), (3, 1)], bytes := 40 }),
 (216, { size := 4, agg := true, zero := [.pointer none, .pointer none, .pointer none, .string ⟨#[]⟩], bm := [(0, 1), (1, 1), (2, 1), (3, 1)], bytes := 40 }),
 (217, { size := 0, agg := true, zero := [], bytes := 0 }),
 (218, { size := 0, agg := true, zero := [], bytes := 0 }),
 (219, { size := 0, agg := true, zero := [], bytes := 0 }),
 (220, { size := 1, agg := false, zero := [.int .u8 0], bytes := 1 }),
 (221, { size := 1, agg := false, zero := [.int .u8 0], bytes := 1 }),
 (222, { size := 1, agg := false, zero := [.nilFunc], bytes := 8 }),
 (223, { size := 1, agg := false, zero := [.pointer none], bytes := 8 }),
 (224, { size := 1, agg := false, zero := [.int .i32 0], bytes := 4 }),
 (225, { size := 1, agg := false, zero := [.int .i32 0], bytes := 4 }),
 (226, { size := 11, agg := true, zero := [.int .u64 0, .int .u64 0, .int .u32 0, .int .u8 0, .int .u8 0, .int .u8 0, .int .u8 0, .nilFunc, .pointer none, .int .i32 0, .int .i32 0], bm := [(0, 1), (1, 1), (2, 1), (3, 1), (4, 1), (5, 1), (6, 1), (7, 1), (8, 1), (9, 1), (10, 1)], bytes := 48 }),
 (227, { size := 11, agg := true, zero := [.int .u64 0, .int .u64 0, .int .u32 0, .int .u8 0, .int .u8 0, .int .u8 0, .int .u8 0, .nilFunc, .pointer none, .int .i32 0, .int .i32 0], bm := [(0, 1), (1, 1), (2, 1), (3, 1), (4, 1), (5, 1), (6, 1), (7, 1), (8, 1), (9, 1), (10, 1)], bytes := 48 }),
 (228, { size := 1, agg := false, zero := [.slice none 0 0], elem := some 241, bytes := 24 }),
 (229, { size := 1, agg := false, zero := [.slice none 0 0], elem := some 243, bytes := 24 }),
 (230, { size := 1, agg := false, zero := [.slice none 0 0], elem := some 245, bytes := 24 }),
 (231, { size := 1, agg := false, zero := [.slice none 0 0], elem := some 247, bytes := 24 }),
 (232, { size := 5, agg := true, zero := [.string ⟨#[]⟩, .slice none 0 0, .slice none 0 0, .slice none 0 0, .slice none 0 0], bm := [(0, 1), (1, 1), (2, 1), (3, 1), (4, 1)], bytes := 112 }),
 (233, { size := 5, agg := true, zero := [.string ⟨#[]⟩, .slice none 0 0, .slice none 0 0, .slice none 0 0, .slice none 0 0], bm := [(0, 1), (1, 1), (2, 1), (3, 1), (4, 1)], bytes := 112 }),
 (234, { size := 1, agg := false, zero := [.pointer none], bytes := 8 }),
 (235, { size := 1, agg := false, zero := [.slice none 0 0], elem := some 249, bytes := 24 }),
 (236, { size := 1, agg := false, zero := [.slice none 0 0], elem := some 239, bytes := 24 }),
 (237, { size := 1, agg := false, zero := [.slice none 0 0], elem := some 251, bytes := 24 }),
 (238, { size := 5, agg := true, zero := [.int .i64 0, .string ⟨#[]⟩, .string ⟨#[]⟩, .slice none 0 0, .slice none 0 0], bm := [(0, 1), (1, 1), (2, 1), (3, 1), (4, 1)], bytes := 88 }),
 (239, { size := 5, agg := true, zero := [.int .i64 0, .string ⟨#[]⟩, .string ⟨#[]⟩, .slice none 0 0, .slice none 0 0], bm := [(0, 1), (1, 1), (2, 1), (3, 1), (4, 1)], bytes := 88 }),
 (240, { size := 12, agg := true, zero := [.string ⟨#[]⟩, .slice none 0 0, .int .i64 0, .string ⟨#[]⟩, .string ⟨#[]⟩, .slice none 0 0, .slice none 0 0, .int .i64 0, .string ⟨#[]⟩, .string ⟨#[]⟩, .slice none 0 0, .slice none 0 0], bm := [(0, 1), (1, 1), (2, 5), (7, 5)], bytes := 216 }),
 (241, { size := 12, agg := true, zero := [.string ⟨#[]⟩, .slice none 0 0, .int .i64 0, .string ⟨#[]⟩, .string ⟨#[]⟩, .slice none 0 0, .slice none 0 0, .int .i64 0, .string ⟨#[]⟩, .string ⟨#[]⟩, .slice none 0 0, .slice none 0 0], bm := [(0, 1), (1, 1), (2, 5), (7, 5)], bytes := 216 }),
 (242, { size := 7, agg := true, zero := [.string ⟨#[]⟩, .slice none 0 0, .int .i64 0, .string ⟨#[]⟩, .string ⟨#[]⟩, .slice none 0 0, .slice none 0 0], bm := [(0, 1), (1, 1), (2, 5)], bytes := 128 }),
 (243, { size := 7, agg := true, zero := [.string ⟨#[]⟩, .slice none 0 0, .int .i64 0, .string ⟨#[]⟩, .string ⟨#[]⟩, .slice none 0 0, .slice none 0 0], bm := [(0, 1), (1, 1), (2, 5)], bytes := 128 }),
 (244, { size := 3, agg := true, zero := [.string ⟨#[]⟩, .string ⟨#[]⟩, .string ⟨#[]⟩], bm := [(0, 1), (1, 1), (2, 1)], bytes := 48 }),
 (245, { size := 3, agg := true, zero := [.string ⟨#[]⟩, .string ⟨#[]⟩, .string ⟨#[]⟩], bm := [(0, 1), (1, 1), (2, 1)], bytes := 48 }),
 (246, { size := 2, agg := true, zero := [.string ⟨#[]⟩, .string ⟨#[]⟩], bm := [(0, 1), (1, 1)], bytes := 32 }),
 (247, { size := 2, agg := true, zero := [.string ⟨#[]⟩, .string ⟨#[]⟩], bm := [(0, 1), (1, 1)], bytes := 32 }),
 (248, { size := 7, agg := true, zero := [.string ⟨#[]⟩, .int .i64 0, .int .i64 0, .string ⟨#[]⟩, .string ⟨#[]⟩, .slice none 0 0, .slice none 0 0], bm := [(0, 1), (1, 1), (2, 5)], bytes := 112 }),
 (249, { size := 7, agg := true, zero := [.string ⟨#[]⟩, .int .i64 0, .int .i64 0, .string ⟨#[]⟩, .string ⟨#[]⟩, .slice none 0 0, .slice none 0 0], bm := [(0, 1), (1, 1), (2, 5)], bytes := 112 }),
 (250, { size := 7, agg := true, zero := [.string ⟨#[]⟩, .int .i64 0, .string ⟨#[]⟩, .string ⟨#[]⟩, .slice none 0 0, .slice none 0 0, .bool false], bm := [(0, 1), (1, 5), (6, 1)], bytes := 112 }),
 (251, { size := 7, agg := true, zero := [.string ⟨#[]⟩, .int .i64 0, .string ⟨#[]⟩, .string ⟨#[]⟩, .slice none 0 0, .slice none 0 0, .bool false], bm := [(0, 1), (1, 5), (6, 1)], bytes := 112 })]
def tt : Table := mm XC
theorem tt_ok : TT Tryz.prog tt := tt_of (P := Tryz.prog) (l := XC) (by kernel_rfl)
theorem aK : Tryz.prog.follows .mixedOrders = true := by kernel_rfl

theorem Y2 : tt 3 = some { size := 1, agg := false, zero := [.int .i64 0], bytes := 8 } := by kernel_rfl
theorem Y3 : tt 4 = some { size := 1, agg := false, zero := [.bool false], bytes := 1 } := by kernel_rfl
theorem Y4 : tt 5 = some { size := 1, agg := false, zero := [.int .u8 0], bytes := 1 } := by kernel_rfl
theorem Y5 : tt 9 = some { size := 1, agg := false, zero := [.string ⟨#[]⟩], bytes := 16 } := by kernel_rfl
theorem Vv : tt 22 = some { size := 1, agg := false, zero := [.slice none 0 0], elem := some 40, bytes := 24 } := by kernel_rfl
theorem Vw : tt 25 = some { size := 2, agg := true, zero := [.slice none 0 0, .slice none 0 0], bm := [(0, 1), (1, 1)], bytes := 48 } := by kernel_rfl
theorem Si : tt 26 = some { size := 1, agg := false, zero := [.slice none 0 0], elem := some 51, bytes := 24 } := by kernel_rfl
theorem Vx : tt 27 = some { size := 1, agg := false, zero := [.slice none 0 0], elem := some 54, bytes := 24 } := by kernel_rfl
theorem Vy : tt 34 = some { size := 1, agg := false, zero := [.int .i64 0], bytes := 8 } := by kernel_rfl
theorem Vz : tt 38 = some { size := 3, agg := true, zero := [.int .i64 0, .int .i64 0, .int .i64 0], bm := [(0, 1), (1, 1), (2, 1)], bytes := 24 } := by kernel_rfl
theorem VB : tt 40 = some { size := 9, agg := true, zero := [.string ⟨#[]⟩, .int .i64 0, .int .i64 0, .int .i64 0, .slice none 0 0, .string ⟨#[]⟩, .string ⟨#[]⟩, .string ⟨#[]⟩, .bool false], bm := [(0, 1), (1, 3), (4, 1), (5, 1), (6, 1), (7, 1), (8, 1)], bytes := 120 } := by kernel_rfl
theorem VE : tt 49 = some { size := 1, agg := false, zero := [.slice none 0 0], elem := some 78, bytes := 24 } := by kernel_rfl
theorem VG : tt 51 = some { size := 2, agg := true, zero := [.string ⟨#[]⟩, .slice none 0 0], bm := [(0, 1), (1, 1)], bytes := 40 } := by kernel_rfl
theorem VH : tt 54 = some { size := 4, agg := true, zero := [.string ⟨#[]⟩, .int .i64 0, .int .i64 0, .int .i64 0], bm := [(0, 1), (1, 3)], bytes := 40 } := by kernel_rfl
theorem VI : tt 71 = some { size := 1, agg := false, zero := [.slice none 0 0], elem := some 9, bytes := 24 } := by kernel_rfl
theorem VJ : tt 78 = some { size := 2, agg := true, zero := [.int .i64 0, .int .i64 0], bm := [(0, 1), (1, 1)], bytes := 16 } := by kernel_rfl
theorem VK : tt 79 = some { size := 1, agg := false, zero := [.map none], bytes := 8 } := by kernel_rfl
theorem VL : tt 80 = some { size := 1, agg := false, zero := [.map none], bytes := 8 } := by kernel_rfl
theorem VM : tt 82 = some { size := 2, agg := true, zero := [.map none, .map none], bm := [(0, 1), (1, 1)], bytes := 16 } := by kernel_rfl
theorem VN : tt 92 = some { size := 1, agg := false, zero := [.map none], bytes := 8 } := by kernel_rfl
theorem VO : tt 96 = some { size := 1, agg := false, zero := [.slice none 0 0], elem := some 3, bytes := 24 } := by kernel_rfl
theorem Sj : tt 104 = some { size := 1, agg := false, zero := [.pointer none], bytes := 8 } := by kernel_rfl
theorem Sk : tt 140 = some { size := 3, agg := true, zero := [.string ⟨#[]⟩, .int .i64 0, .int .i64 0], bm := [(0, 1), (1, 1), (2, 1)], bytes := 32 } := by kernel_rfl
theorem Sl : tt 151 = some { size := 3, agg := true, zero := [.int .i64 0, .int .i64 0, .int .i64 0], bytes := 24 } := by kernel_rfl
theorem Sm : tt 159 = some { size := 1, agg := false, zero := [.slice none 0 0], elem := some 5, bytes := 24 } := by kernel_rfl
theorem du (f : FuncId) (fn : Func) (body : Code) (hf : Tryz.prog.funcs[f]? = some fn) (hb : fn.body = some body) (xs : Array Value) (w : World) : (callFunc f xs).run Tryz.prog w = .ok (.enter f xs) w := He (by kernel_rfl) f fn body hf hb xs w
def Sn : yX := Ou []
theorem Di {nat : lP} {jx : FuncId → List V → Option V} (C8 : tc Tryz.prog jx) (vt : jw Tryz.prog nat) (n : Nat) {f : FuncId} {vs : List V} {r : V} (h : y9 Tryz.prog tt (ev Tryz.prog tt Sn nat jx n) f vs = some r) : aP Tryz.prog f vs r := Sh tt_ok aK du C8 vt n h
/-- The functions of the model's own. -/
noncomputable def Sp : lP := fun f vs => if f = 196 then Bw vs else NV Tryz.prog f vs
theorem KD (hG : aE.g = some 0) : jw Tryz.prog Sp := fun f vs r h => by
 unfold Sp at h
 split at h
 ·rename_i hf
  subst hf
  exact EN (fn := Tryz.f196) (by kernel_rfl) (by kernel_rfl) (by kernel_rfl) (by kernel_rfl) (by kernel_rfl) (fun w => by
   simp only [globalAddr,program,Sem.run_bind]
   show (match Tryz.prog.globals.findIdx? (fun x => x.name == "internal/bytealg.MaxLen") with | some g => _ | none => _ : Sem Addr).run Tryz.prog w = _
   rw [show Tryz.prog.globals.findIdx? (fun x => x.name == "internal/bytealg.MaxLen") = some 0 from by kernel_rfl]; rfl) hG h
 ·exact J8 h
end Go.Proofs.YtnfeacnbgbggfaaGreatDoor
end
