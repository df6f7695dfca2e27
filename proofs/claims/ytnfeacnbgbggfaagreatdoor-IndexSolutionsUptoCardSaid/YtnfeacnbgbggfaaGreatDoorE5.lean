/-
  THE ENGINE, T: the table of this translation's types, written by program (gentab.lean), checked by the kernel.
-/
import Derived.Test.YtnfeacnbgbggfaaGreatDoorE4
import Derived.Test.YtnfeacnbgbggfaaGreatDoorProg
import Derived.KernelRfl
set_option linter.all false
section
namespace Go.Proofs.YtnfeacnbgbggfaaGreatDoor
open Go.Eng
variable [Glob]
abbrev pN : Pl := ⟨.n, 0, [], [], []⟩
/-- The types of the translation. -/
def tab : List (Nat × Ti) := [
 (1, { size := 1, agg := false, zero := [.nilFunc], bytes := 8 }),
 (2, { size := 1, agg := false, zero := [.int .i64 0], bytes := 8 }),
 (3, { size := 1, agg := false, zero := [.int .i64 0], bytes := 8 }),
 (4, { size := 1, agg := false, zero := [.bool false], bytes := 1 }),
 (5, { size := 1, agg := false, zero := [.int .u8 0], bytes := 1 }),
 (6, { size := 1, agg := false, zero := [.int .u8 0], bytes := 1 }),
 (7, { size := 4, agg := true, zero := [.int .i64 0, .int .i64 0, .bool false, .int .u8 0], flds := [(0, 1), (1, 1), (2, 1), (3, 1)], bytes := 24 }),
 (8, { size := 4, agg := true, zero := [.int .i64 0, .int .i64 0, .bool false, .int .u8 0], flds := [(0, 1), (1, 1), (2, 1), (3, 1)], bytes := 24 }),
 (9, { size := 1, agg := false, zero := [.string ⟨#[]⟩], bytes := 16 }),
 (10, { size := 1, agg := false, zero := [.string ⟨#[]⟩], bytes := 16 }),
 (11, { size := 1, agg := false, zero := [.string ⟨#[]⟩], bytes := 16 }),
 (12, { size := 1, agg := false, zero := [.int .u64 0], bytes := 8 }),
 (13, { size := 2, agg := true, zero := [.string ⟨#[]⟩, .int .u64 0], flds := [(0, 1), (1, 1)], bytes := 24 }),
 (14, { size := 2, agg := true, zero := [.string ⟨#[]⟩, .int .u64 0], flds := [(0, 1), (1, 1)], bytes := 24 }),
 (15, { size := 1, agg := false, zero := [.pointer none], bytes := 8 }),
 (16, { size := 1, agg := false, zero := [.pointer none], bytes := 8 }),
 (17, { size := 1, agg := false, zero := [.pointer none], bytes := 8 }),
 (18, { size := 1, agg := true, zero := [.pointer none], flds := [(0, 1)], bytes := 8 }),
 (19, { size := 1, agg := true, zero := [.pointer none], flds := [(0, 1)], bytes := 8 }),
 (20, { size := 1, agg := false, zero := [.nilIface], bytes := 16 }),
 (21, { size := 1, agg := false, zero := [.int .i32 0], bytes := 4 }),
 (22, { size := 1, agg := false, zero := [.slice none 0 0], elem := some 40, bytes := 24 }),
 (23, { size := 1, agg := false, zero := [.slice none 0 0], elem := some 233, bytes := 24 }),
 (24, { size := 2, agg := true, zero := [.slice none 0 0, .slice none 0 0], flds := [(0, 1), (1, 1)], bytes := 48 }),
 (25, { size := 2, agg := true, zero := [.slice none 0 0, .slice none 0 0], flds := [(0, 1), (1, 1)], bytes := 48 }),
 (26, { size := 1, agg := false, zero := [.slice none 0 0], elem := some 51, bytes := 24 }),
 (27, { size := 1, agg := false, zero := [.slice none 0 0], elem := some 54, bytes := 24 }),
 (28, { size := 1, agg := false, zero := [.nilFunc], bytes := 8 }),
 (29, { size := 1, agg := false, zero := [.nilFunc], bytes := 8 }),
 (30, { size := 1, agg := false, zero := [.nilFunc], bytes := 8 }),
 (31, { size := 1, agg := false, zero := [.nilFunc], bytes := 8 }),
 (32, { size := 1, agg := false, zero := [.nilFunc], bytes := 8 }),
 (33, { size := 1, agg := false, zero := [.nilFunc], bytes := 8 }),
 (34, { size := 1, agg := false, zero := [.int .i64 0], bytes := 8 }),
 (35, { size := 1, agg := false, zero := [.nilFunc], bytes := 8 }),
 (36, { size := 1, agg := false, zero := [.nilFunc], bytes := 8 }),
 (37, { size := 3, agg := true, zero := [.int .i64 0, .int .i64 0, .int .i64 0], flds := [(0, 1), (1, 1), (2, 1)], bytes := 24 }),
 (38, { size := 3, agg := true, zero := [.int .i64 0, .int .i64 0, .int .i64 0], flds := [(0, 1), (1, 1), (2, 1)], bytes := 24 }),
 (39, { size := 9, agg := true, zero := [.string ⟨#[]⟩, .int .i64 0, .int .i64 0, .int .i64 0, .slice none 0 0, .string ⟨#[]⟩, .string ⟨#[]⟩, .string ⟨#[]⟩, .bool false], flds := [(0, 1), (1, 3), (4, 1), (5, 1), (6, 1), (7, 1), (8, 1)], bytes := 120 }),
 (40, { size := 9, agg := true, zero := [.string ⟨#[]⟩, .int .i64 0, .int .i64 0, .int .i64 0, .slice none 0 0, .string ⟨#[]⟩, .string ⟨#[]⟩, .string ⟨#[]⟩, .bool false], flds := [(0, 1), (1, 3), (4, 1), (5, 1), (6, 1), (7, 1), (8, 1)], bytes := 120 }),
 (42, { size := 1, agg := false, zero := [.nilFunc], bytes := 8 }),
 (44, { size := 1, agg := false, zero := [.nilFunc], bytes := 8 }),
 (45, { size := 1, agg := false, zero := [.nilFunc], bytes := 8 }),
 (46, { size := 1, agg := false, zero := [.nilFunc], bytes := 8 }),
 (47, { size := 1, agg := false, zero := [.nilFunc], bytes := 8 }),
 (48, { size := 1, agg := false, zero := [.slice none 0 0], elem := some 78, bytes := 24 }),
 (49, { size := 1, agg := false, zero := [.slice none 0 0], elem := some 78, bytes := 24 }),
 (50, { size := 2, agg := true, zero := [.string ⟨#[]⟩, .slice none 0 0], flds := [(0, 1), (1, 1)], bytes := 40 }),
 (51, { size := 2, agg := true, zero := [.string ⟨#[]⟩, .slice none 0 0], flds := [(0, 1), (1, 1)], bytes := 40 }),
 (52, { size := 1, agg := false, zero := [.nilFunc], bytes := 8 }),
 (53, { size := 4, agg := true, zero := [.string ⟨#[]⟩, .int .i64 0, .int .i64 0, .int .i64 0], flds := [(0, 1), (1, 3)], bytes := 40 }),
 (54, { size := 4, agg := true, zero := [.string ⟨#[]⟩, .int .i64 0, .int .i64 0, .int .i64 0], flds := [(0, 1), (1, 3)], bytes := 40 }),
 (56, { size := 1, agg := false, zero := [.nilFunc], bytes := 8 }),
 (58, { size := 1, agg := false, zero := [.nilFunc], bytes := 8 }),
 (59, { size := 1, agg := false, zero := [.nilFunc], bytes := 8 }),
 (60, { size := 1, agg := false, zero := [.nilFunc], bytes := 8 }),
 (61, { size := 1, agg := false, zero := [.nilFunc], bytes := 8 }),
 (62, { size := 1, agg := false, zero := [.nilFunc], bytes := 8 }),
 (63, { size := 1, agg := false, zero := [.nilFunc], bytes := 8 }),
 (64, { size := 1, agg := false, zero := [.nilFunc], bytes := 8 }),
 (65, { size := 1, agg := false, zero := [.nilFunc], bytes := 8 }),
 (66, { size := 1, agg := false, zero := [.nilFunc], bytes := 8 }),
 (67, { size := 1, agg := false, zero := [.nilFunc], bytes := 8 }),
 (68, { size := 1, agg := false, zero := [.slice none 0 0], elem := some 38, bytes := 24 }),
 (69, { size := 1, agg := false, zero := [.nilFunc], bytes := 8 }),
 (70, { size := 1, agg := false, zero := [.nilFunc], bytes := 8 }),
 (71, { size := 1, agg := false, zero := [.slice none 0 0], elem := some 9, bytes := 24 }),
 (72, { size := 1, agg := false, zero := [.nilFunc], bytes := 8 }),
 (73, { size := 1, agg := false, zero := [.nilFunc], bytes := 8 }),
 (74, { size := 1, agg := false, zero := [.nilFunc], bytes := 8 }),
 (75, { size := 1, agg := false, zero := [.nilFunc], bytes := 8 }),
 (76, { size := 1, agg := false, zero := [.nilFunc], bytes := 8 }),
 (77, { size := 2, agg := true, zero := [.int .i64 0, .int .i64 0], flds := [(0, 1), (1, 1)], bytes := 16 }),
 (78, { size := 2, agg := true, zero := [.int .i64 0, .int .i64 0], flds := [(0, 1), (1, 1)], bytes := 16 }),
 (79, { size := 1, agg := false, zero := [.map none], bytes := 8 }),
 (80, { size := 1, agg := false, zero := [.map none], bytes := 8 }),
 (81, { size := 2, agg := true, zero := [.map none, .map none], flds := [(0, 1), (1, 1)], bytes := 16 }),
 (82, { size := 2, agg := true, zero := [.map none, .map none], flds := [(0, 1), (1, 1)], bytes := 16 }),
 (84, { size := 1, agg := false, zero := [.nilFunc], bytes := 8 }),
 (85, { size := 1, agg := false, zero := [.map none], bytes := 8 }),
 (86, { size := 1, agg := false, zero := [.nilFunc], bytes := 8 }),
 (87, { size := 1, agg := false, zero := [.nilFunc], bytes := 8 }),
 (88, { size := 1, agg := false, zero := [.slice none 0 0], elem := some 4, bytes := 24 }),
 (89, { size := 1, agg := false, zero := [.nilFunc], bytes := 8 }),
 (91, { size := 1, agg := false, zero := [.nilFunc], bytes := 8 }),
 (92, { size := 1, agg := false, zero := [.map none], bytes := 8 }),
 (93, { size := 1, agg := false, zero := [.map none], bytes := 8 }),
 (94, { size := 1, agg := false, zero := [.nilFunc], bytes := 8 }),
 (95, { size := 1, agg := false, zero := [.nilFunc], bytes := 8 }),
 (96, { size := 1, agg := false, zero := [.slice none 0 0], elem := some 3, bytes := 24 }),
 (97, { size := 1, agg := false, zero := [.nilFunc], bytes := 8 }),
 (98, { size := 1, agg := false, zero := [.nilFunc], bytes := 8 }),
 (99, { size := 1, agg := false, zero := [.nilFunc], bytes := 8 }),
 (100, { size := 1, agg := false, zero := [.nilFunc], bytes := 8 }),
 (101, { size := 1, agg := false, zero := [.nilFunc], bytes := 8 }),
 (102, { size := 1, agg := false, zero := [.nilFunc], bytes := 8 }),
 (103, { size := 1, agg := false, zero := [.nilFunc], bytes := 8 }),
 (104, { size := 1, agg := false, zero := [.pointer none], bytes := 8 }),
 (105, { size := 1, agg := false, zero := [.nilFunc], bytes := 8 }),
 (106, { size := 1, agg := false, zero := [.nilFunc], bytes := 8 }),
 (108, { size := 1, agg := false, zero := [.nilFunc], bytes := 8 }),
 (109, { size := 1, agg := false, zero := [.nilFunc], bytes := 8 }),
 (110, { size := 1, agg := false, zero := [.nilFunc], bytes := 8 }),
 (111, { size := 1, agg := false, zero := [.nilFunc], bytes := 8 }),
 (113, { size := 1, agg := false, zero := [.nilFunc], bytes := 8 }),
 (115, { size := 1, agg := false, zero := [.nilFunc], bytes := 8 }),
 (117, { size := 1, agg := false, zero := [.nilFunc], bytes := 8 }),
 (118, { size := 1, agg := false, zero := [.nilFunc], bytes := 8 }),
 (119, { size := 1, agg := false, zero := [.nilFunc], bytes := 8 }),
 (120, { size := 1, agg := false, zero := [.nilFunc], bytes := 8 }),
 (121, { size := 1, agg := false, zero := [.nilFunc], bytes := 8 }),
 (122, { size := 1, agg := false, zero := [.nilFunc], bytes := 8 }),
 (123, { size := 1, agg := false, zero := [.nilFunc], bytes := 8 }),
 (124, { size := 1, agg := false, zero := [.nilFunc], bytes := 8 }),
 (125, { size := 1, agg := false, zero := [.nilFunc], bytes := 8 }),
 (126, { size := 1, agg := false, zero := [.nilFunc], bytes := 8 }),
 (127, { size := 1, agg := false, zero := [.nilFunc], bytes := 8 }),
 (128, { size := 1, agg := false, zero := [.slice none 0 0], elem := some 27, bytes := 24 }),
 (129, { size := 1, agg := false, zero := [.nilFunc], bytes := 8 }),
 (130, { size := 1, agg := false, zero := [.nilFunc], bytes := 8 }),
 (131, { size := 1, agg := false, zero := [.nilFunc], bytes := 8 }),
 (132, { size := 1, agg := false, zero := [.nilFunc], bytes := 8 }),
 (133, { size := 1, agg := false, zero := [.nilFunc], bytes := 8 }),
 (134, { size := 1, agg := false, zero := [.nilFunc], bytes := 8 }),
 (135, { size := 1, agg := false, zero := [.nilFunc], bytes := 8 }),
 (136, { size := 1, agg := false, zero := [.int .u64 0], bytes := 8 }),
 (137, { size := 1, agg := false, zero := [.nilFunc], bytes := 8 }),
 (138, { size := 1, agg := false, zero := [.nilFunc], bytes := 8 }),
 (139, { size := 3, agg := true, zero := [.string ⟨#[]⟩, .int .i64 0, .int .i64 0], flds := [(0, 1), (1, 1), (2, 1)], bytes := 32 }),
 (140, { size := 3, agg := true, zero := [.string ⟨#[]⟩, .int .i64 0, .int .i64 0], flds := [(0, 1), (1, 1), (2, 1)], bytes := 32 }),
 (141, { size := 1, agg := false, zero := [.nilFunc], bytes := 8 }),
 (142, { size := 1, agg := false, zero := [.nilFunc], bytes := 8 }),
 (143, { size := 1, agg := false, zero := [.nilFunc], bytes := 8 }),
 (144, { size := 1, agg := false, zero := [.nilFunc], bytes := 8 }),
 (145, { size := 1, agg := false, zero := [.nilFunc], bytes := 8 }),
 (146, { size := 1, agg := false, zero := [.nilFunc], bytes := 8 }),
 (148, { size := 1, agg := false, zero := [.nilFunc], bytes := 8 }),
 (149, { size := 1, agg := false, zero := [.nilFunc], bytes := 8 }),
 (150, { size := 1, agg := false, zero := [.nilFunc], bytes := 8 }),
 (151, { size := 3, agg := true, zero := [.int .i64 0, .int .i64 0, .int .i64 0], bytes := 24 }),
 (152, { size := 1, agg := false, zero := [.nilFunc], bytes := 8 }),
 (153, { size := 1, agg := false, zero := [.nilFunc], bytes := 8 }),
 (154, { size := 1, agg := false, zero := [.nilFunc], bytes := 8 }),
 (155, { size := 1, agg := false, zero := [.nilFunc], bytes := 8 }),
 (156, { size := 1, agg := false, zero := [.int .u64 0], bytes := 8 }),
 (157, { size := 1, agg := false, zero := [.nilFunc], bytes := 8 }),
 (158, { size := 1, agg := false, zero := [.nilFunc], bytes := 8 }),
 (159, { size := 1, agg := false, zero := [.slice none 0 0], elem := some 5, bytes := 24 }),
 (160, { size := 1, agg := false, zero := [.nilFunc], bytes := 8 }),
 (161, { size := 1, agg := false, zero := [.nilFunc], bytes := 8 }),
 (163, { size := 1, agg := false, zero := [.nilFunc], bytes := 8 }),
 (164, { size := 1, agg := false, zero := [.nilFunc], bytes := 8 }),
 (165, { size := 1, agg := false, zero := [.nilFunc], bytes := 8 }),
 (166, { size := 1, agg := false, zero := [.nilFunc], bytes := 8 }),
 (167, { size := 1, agg := false, zero := [.nilFunc], bytes := 8 }),
 (168, { size := 1, agg := false, zero := [.pointer none], bytes := 8 }),
 (169, { size := 1, agg := false, zero := [.nilFunc], bytes := 8 }),
 (170, { size := 1, agg := false, zero := [.nilFunc], bytes := 8 }),
 (171, { size := 1, agg := false, zero := [.nilFunc], bytes := 8 }),
 (172, { size := 1, agg := false, zero := [.int .i64 0], bytes := 8 }),
 (174, { size := 1, agg := false, zero := [.nilFunc], bytes := 8 }),
 (175, { size := 1, agg := false, zero := [.nilFunc], bytes := 8 }),
 (176, { size := 1, agg := false, zero := [.nilFunc], bytes := 8 }),
 (177, { size := 1, agg := false, zero := [.nilFunc], bytes := 8 }),
 (178, { size := 1, agg := false, zero := [.nilFunc], bytes := 8 }),
 (179, { size := 1, agg := false, zero := [.nilFunc], bytes := 8 }),
 (180, { size := 1, agg := false, zero := [.int .u32 0], bytes := 4 }),
 (181, { size := 1, agg := false, zero := [.nilFunc], bytes := 8 }),
 (182, { size := 1, agg := false, zero := [.nilFunc], bytes := 8 }),
 (183, { size := 1, agg := false, zero := [.nilFunc], bytes := 8 }),
 (185, { size := 1, agg := false, zero := [.nilFunc], bytes := 8 }),
 (187, { size := 1, agg := false, zero := [.nilFunc], bytes := 8 }),
 (188, { size := 1, agg := false, zero := [.nilFunc], bytes := 8 }),
 (189, { size := 1, agg := false, zero := [.int .u64 0], bytes := 8 }),
 (190, { size := 1, agg := false, zero := [.nilFunc], bytes := 8 }),
 (191, { size := 1, agg := false, zero := [.nilFunc], bytes := 8 }),
 (192, { size := 1, agg := false, zero := [.nilFunc], bytes := 8 }),
 (193, { size := 1, agg := false, zero := [.pointer none], bytes := 8 }),
 (194, { size := 1, agg := false, zero := [.nilFunc], bytes := 8 }),
 (195, { size := 1, agg := false, zero := [.nilFunc], bytes := 8 }),
 (196, { size := 1, agg := false, zero := [.nilFunc], bytes := 8 }),
 (197, { size := 1, agg := false, zero := [.nilFunc], bytes := 8 }),
 (198, { size := 1, agg := false, zero := [.nilFunc], bytes := 8 }),
 (199, { size := 1, agg := false, zero := [.nilFunc], bytes := 8 }),
 (200, { size := 1, agg := false, zero := [.nilFunc], bytes := 8 }),
 (201, { size := 1, agg := false, zero := [.pointer none], bytes := 8 }),
 (203, { size := 1, agg := false, zero := [.nilFunc], bytes := 8 }),
 (204, { size := 1, agg := false, zero := [.nilFunc], bytes := 8 }),
 (205, { size := 1, agg := false, zero := [.nilFunc], bytes := 8 }),
 (207, { size := 1, agg := false, zero := [.nilFunc], bytes := 8 }),
 (208, { size := 1, agg := false, zero := [.nilFunc], bytes := 8 }),
 (209, { size := 1, agg := false, zero := [.nilFunc], bytes := 8 }),
 (210, { size := 1, agg := false, zero := [.nilFunc], bytes := 8 }),
 (212, { size := 2, agg := true, zero := [.int .u8 0, .int .u8 0], flds := [(0, 1), (1, 1)], bytes := 2 }),
 (213, { size := 2, agg := true, zero := [.int .u8 0, .int .u8 0], flds := [(0, 1), (1, 1)], bytes := 2 }),
 (214, { size := 32, agg := true, zero := [.int .u8 0, .int .u8 0, .int .u8 0, .int .u8 0, .int .u8 0, .int .u8 0, .int .u8 0, .int .u8 0, .int .u8 0, .int .u8 0, .int .u8 0, .int .u8 0, .int .u8 0, .int .u8 0, .int .u8 0, .int .u8 0, .int .u8 0, .int .u8 0, .int .u8 0, .int .u8 0, .int .u8 0, .int .u8 0, .int .u8 0, .int .u8 0, .int .u8 0, .int .u8 0, .int .u8 0, .int .u8 0, .int .u8 0, .int .u8 0, .int .u8 0, .int .u8 0], bytes := 32 }),
 (215, { size := 4, agg := true, zero := [.pointer none, .pointer none, .pointer none, .string ⟨#[]⟩], flds := [(0, 1), (1, 1), (2, 1), (3, 1)], bytes := 40 }),
 (216, { size := 4, agg := true, zero := [.pointer none, .pointer none, .pointer none, .string ⟨#[]⟩], flds := [(0, 1), (1, 1), (2, 1), (3, 1)], bytes := 40 }),
 (217, { size := 0, agg := true, zero := [], bytes := 0 }),
 (218, { size := 0, agg := true, zero := [], bytes := 0 }),
 (219, { size := 0, agg := true, zero := [], bytes := 0 }),
 (220, { size := 1, agg := false, zero := [.int .u8 0], bytes := 1 }),
 (221, { size := 1, agg := false, zero := [.int .u8 0], bytes := 1 }),
 (222, { size := 1, agg := false, zero := [.nilFunc], bytes := 8 }),
 (223, { size := 1, agg := false, zero := [.pointer none], bytes := 8 }),
 (224, { size := 1, agg := false, zero := [.int .i32 0], bytes := 4 }),
 (225, { size := 1, agg := false, zero := [.int .i32 0], bytes := 4 }),
 (226, { size := 11, agg := true, zero := [.int .u64 0, .int .u64 0, .int .u32 0, .int .u8 0, .int .u8 0, .int .u8 0, .int .u8 0, .nilFunc, .pointer none, .int .i32 0, .int .i32 0], flds := [(0, 1), (1, 1), (2, 1), (3, 1), (4, 1), (5, 1), (6, 1), (7, 1), (8, 1), (9, 1), (10, 1)], bytes := 48 }),
 (227, { size := 11, agg := true, zero := [.int .u64 0, .int .u64 0, .int .u32 0, .int .u8 0, .int .u8 0, .int .u8 0, .int .u8 0, .nilFunc, .pointer none, .int .i32 0, .int .i32 0], flds := [(0, 1), (1, 1), (2, 1), (3, 1), (4, 1), (5, 1), (6, 1), (7, 1), (8, 1), (9, 1), (10, 1)], bytes := 48 }),
 (228, { size := 1, agg := false, zero := [.slice none 0 0], elem := some 241, bytes := 24 }),
 (229, { size := 1, agg := false, zero := [.slice none 0 0], elem := some 243, bytes := 24 }),
 (230, { size := 1, agg := false, zero := [.slice none 0 0], elem := some 245, bytes := 24 }),
 (231, { size := 1, agg := false, zero := [.slice none 0 0], elem := some 247, bytes := 24 }),
 (232, { size := 5, agg := true, zero := [.string ⟨#[]⟩, .slice none 0 0, .slice none 0 0, .slice none 0 0, .slice none 0 0], flds := [(0, 1), (1, 1), (2, 1), (3, 1), (4, 1)], bytes := 112 }),
 (233, { size := 5, agg := true, zero := [.string ⟨#[]⟩, .slice none 0 0, .slice none 0 0, .slice none 0 0, .slice none 0 0], flds := [(0, 1), (1, 1), (2, 1), (3, 1), (4, 1)], bytes := 112 }),
 (234, { size := 1, agg := false, zero := [.pointer none], bytes := 8 }),
 (235, { size := 1, agg := false, zero := [.slice none 0 0], elem := some 249, bytes := 24 }),
 (236, { size := 1, agg := false, zero := [.slice none 0 0], elem := some 239, bytes := 24 }),
 (237, { size := 1, agg := false, zero := [.slice none 0 0], elem := some 251, bytes := 24 }),
 (238, { size := 5, agg := true, zero := [.int .i64 0, .string ⟨#[]⟩, .string ⟨#[]⟩, .slice none 0 0, .slice none 0 0], flds := [(0, 1), (1, 1), (2, 1), (3, 1), (4, 1)], bytes := 88 }),
 (239, { size := 5, agg := true, zero := [.int .i64 0, .string ⟨#[]⟩, .string ⟨#[]⟩, .slice none 0 0, .slice none 0 0], flds := [(0, 1), (1, 1), (2, 1), (3, 1), (4, 1)], bytes := 88 }),
 (240, { size := 12, agg := true, zero := [.string ⟨#[]⟩, .slice none 0 0, .int .i64 0, .string ⟨#[]⟩, .string ⟨#[]⟩, .slice none 0 0, .slice none 0 0, .int .i64 0, .string ⟨#[]⟩, .string ⟨#[]⟩, .slice none 0 0, .slice none 0 0], flds := [(0, 1), (1, 1), (2, 5), (7, 5)], bytes := 216 }),
 (241, { size := 12, agg := true, zero := [.string ⟨#[]⟩, .slice none 0 0, .int .i64 0, .string ⟨#[]⟩, .string ⟨#[]⟩, .slice none 0 0, .slice none 0 0, .int .i64 0, .string ⟨#[]⟩, .string ⟨#[]⟩, .slice none 0 0, .slice none 0 0], flds := [(0, 1), (1, 1), (2, 5), (7, 5)], bytes := 216 }),
 (242, { size := 7, agg := true, zero := [.string ⟨#[]⟩, .slice none 0 0, .int .i64 0, .string ⟨#[]⟩, .string ⟨#[]⟩, .slice none 0 0, .slice none 0 0], flds := [(0, 1), (1, 1), (2, 5)], bytes := 128 }),
 (243, { size := 7, agg := true, zero := [.string ⟨#[]⟩, .slice none 0 0, .int .i64 0, .string ⟨#[]⟩, .string ⟨#[]⟩, .slice none 0 0, .slice none 0 0], flds := [(0, 1), (1, 1), (2, 5)], bytes := 128 }),
 (244, { size := 3, agg := true, zero := [.string ⟨#[]⟩, .string ⟨#[]⟩, .string ⟨#[]⟩], flds := [(0, 1), (1, 1), (2, 1)], bytes := 48 }),
 (245, { size := 3, agg := true, zero := [.string ⟨#[]⟩, .string ⟨#[]⟩, .string ⟨#[]⟩], flds := [(0, 1), (1, 1), (2, 1)], bytes := 48 }),
 (246, { size := 2, agg := true, zero := [.string ⟨#[]⟩, .string ⟨#[]⟩], flds := [(0, 1), (1, 1)], bytes := 32 }),
 (247, { size := 2, agg := true, zero := [.string ⟨#[]⟩, .string ⟨#[]⟩], flds := [(0, 1), (1, 1)], bytes := 32 }),
 (248, { size := 7, agg := true, zero := [.string ⟨#[]⟩, .int .i64 0, .int .i64 0, .string ⟨#[]⟩, .string ⟨#[]⟩, .slice none 0 0, .slice none 0 0], flds := [(0, 1), (1, 1), (2, 5)], bytes := 112 }),
 (249, { size := 7, agg := true, zero := [.string ⟨#[]⟩, .int .i64 0, .int .i64 0, .string ⟨#[]⟩, .string ⟨#[]⟩, .slice none 0 0, .slice none 0 0], flds := [(0, 1), (1, 1), (2, 5)], bytes := 112 }),
 (250, { size := 7, agg := true, zero := [.string ⟨#[]⟩, .int .i64 0, .string ⟨#[]⟩, .string ⟨#[]⟩, .slice none 0 0, .slice none 0 0, .bool false], flds := [(0, 1), (1, 5), (6, 1)], bytes := 112 }),
 (251, { size := 7, agg := true, zero := [.string ⟨#[]⟩, .int .i64 0, .string ⟨#[]⟩, .string ⟨#[]⟩, .slice none 0 0, .slice none 0 0, .bool false], flds := [(0, 1), (1, 5), (6, 1)], bytes := 112 })]
def tt : Table := lookupT tab
theorem tt_ok : TT Tryz.prog tt := tt_of (P := Tryz.prog) (l := tab) (by kernel_rfl)
theorem mixed_ok : Tryz.prog.follows .mixedOrders = true := by kernel_rfl

theorem tt1 : tt 1 = some { size := 1, agg := false, zero := [.nilFunc], bytes := 8 } := by kernel_rfl
theorem tt2 : tt 2 = some { size := 1, agg := false, zero := [.int .i64 0], bytes := 8 } := by kernel_rfl
theorem tt3 : tt 3 = some { size := 1, agg := false, zero := [.int .i64 0], bytes := 8 } := by kernel_rfl
theorem tt4 : tt 4 = some { size := 1, agg := false, zero := [.bool false], bytes := 1 } := by kernel_rfl
theorem tt5 : tt 5 = some { size := 1, agg := false, zero := [.int .u8 0], bytes := 1 } := by kernel_rfl
theorem tt6 : tt 6 = some { size := 1, agg := false, zero := [.int .u8 0], bytes := 1 } := by kernel_rfl
theorem tt7 : tt 7 = some { size := 4, agg := true, zero := [.int .i64 0, .int .i64 0, .bool false, .int .u8 0], flds := [(0, 1), (1, 1), (2, 1), (3, 1)], bytes := 24 } := by kernel_rfl
theorem tt8 : tt 8 = some { size := 4, agg := true, zero := [.int .i64 0, .int .i64 0, .bool false, .int .u8 0], flds := [(0, 1), (1, 1), (2, 1), (3, 1)], bytes := 24 } := by kernel_rfl
theorem tt9 : tt 9 = some { size := 1, agg := false, zero := [.string ⟨#[]⟩], bytes := 16 } := by kernel_rfl
theorem tt10 : tt 10 = some { size := 1, agg := false, zero := [.string ⟨#[]⟩], bytes := 16 } := by kernel_rfl
theorem tt11 : tt 11 = some { size := 1, agg := false, zero := [.string ⟨#[]⟩], bytes := 16 } := by kernel_rfl
theorem tt12 : tt 12 = some { size := 1, agg := false, zero := [.int .u64 0], bytes := 8 } := by kernel_rfl
theorem tt13 : tt 13 = some { size := 2, agg := true, zero := [.string ⟨#[]⟩, .int .u64 0], flds := [(0, 1), (1, 1)], bytes := 24 } := by kernel_rfl
theorem tt14 : tt 14 = some { size := 2, agg := true, zero := [.string ⟨#[]⟩, .int .u64 0], flds := [(0, 1), (1, 1)], bytes := 24 } := by kernel_rfl
theorem tt15 : tt 15 = some { size := 1, agg := false, zero := [.pointer none], bytes := 8 } := by kernel_rfl
theorem tt16 : tt 16 = some { size := 1, agg := false, zero := [.pointer none], bytes := 8 } := by kernel_rfl
theorem tt17 : tt 17 = some { size := 1, agg := false, zero := [.pointer none], bytes := 8 } := by kernel_rfl
theorem tt18 : tt 18 = some { size := 1, agg := true, zero := [.pointer none], flds := [(0, 1)], bytes := 8 } := by kernel_rfl
theorem tt19 : tt 19 = some { size := 1, agg := true, zero := [.pointer none], flds := [(0, 1)], bytes := 8 } := by kernel_rfl
theorem tt20 : tt 20 = some { size := 1, agg := false, zero := [.nilIface], bytes := 16 } := by kernel_rfl
theorem tt21 : tt 21 = some { size := 1, agg := false, zero := [.int .i32 0], bytes := 4 } := by kernel_rfl
theorem tt22 : tt 22 = some { size := 1, agg := false, zero := [.slice none 0 0], elem := some 40, bytes := 24 } := by kernel_rfl
theorem tt23 : tt 23 = some { size := 1, agg := false, zero := [.slice none 0 0], elem := some 233, bytes := 24 } := by kernel_rfl
theorem tt24 : tt 24 = some { size := 2, agg := true, zero := [.slice none 0 0, .slice none 0 0], flds := [(0, 1), (1, 1)], bytes := 48 } := by kernel_rfl
theorem tt25 : tt 25 = some { size := 2, agg := true, zero := [.slice none 0 0, .slice none 0 0], flds := [(0, 1), (1, 1)], bytes := 48 } := by kernel_rfl
theorem tt26 : tt 26 = some { size := 1, agg := false, zero := [.slice none 0 0], elem := some 51, bytes := 24 } := by kernel_rfl
theorem tt27 : tt 27 = some { size := 1, agg := false, zero := [.slice none 0 0], elem := some 54, bytes := 24 } := by kernel_rfl
theorem tt28 : tt 28 = some { size := 1, agg := false, zero := [.nilFunc], bytes := 8 } := by kernel_rfl
theorem tt29 : tt 29 = some { size := 1, agg := false, zero := [.nilFunc], bytes := 8 } := by kernel_rfl
theorem tt30 : tt 30 = some { size := 1, agg := false, zero := [.nilFunc], bytes := 8 } := by kernel_rfl
theorem tt31 : tt 31 = some { size := 1, agg := false, zero := [.nilFunc], bytes := 8 } := by kernel_rfl
theorem tt32 : tt 32 = some { size := 1, agg := false, zero := [.nilFunc], bytes := 8 } := by kernel_rfl
theorem tt33 : tt 33 = some { size := 1, agg := false, zero := [.nilFunc], bytes := 8 } := by kernel_rfl
theorem tt34 : tt 34 = some { size := 1, agg := false, zero := [.int .i64 0], bytes := 8 } := by kernel_rfl
theorem tt35 : tt 35 = some { size := 1, agg := false, zero := [.nilFunc], bytes := 8 } := by kernel_rfl
theorem tt36 : tt 36 = some { size := 1, agg := false, zero := [.nilFunc], bytes := 8 } := by kernel_rfl
theorem tt37 : tt 37 = some { size := 3, agg := true, zero := [.int .i64 0, .int .i64 0, .int .i64 0], flds := [(0, 1), (1, 1), (2, 1)], bytes := 24 } := by kernel_rfl
theorem tt38 : tt 38 = some { size := 3, agg := true, zero := [.int .i64 0, .int .i64 0, .int .i64 0], flds := [(0, 1), (1, 1), (2, 1)], bytes := 24 } := by kernel_rfl
theorem tt39 : tt 39 = some { size := 9, agg := true, zero := [.string ⟨#[]⟩, .int .i64 0, .int .i64 0, .int .i64 0, .slice none 0 0, .string ⟨#[]⟩, .string ⟨#[]⟩, .string ⟨#[]⟩, .bool false], flds := [(0, 1), (1, 3), (4, 1), (5, 1), (6, 1), (7, 1), (8, 1)], bytes := 120 } := by kernel_rfl
theorem tt40 : tt 40 = some { size := 9, agg := true, zero := [.string ⟨#[]⟩, .int .i64 0, .int .i64 0, .int .i64 0, .slice none 0 0, .string ⟨#[]⟩, .string ⟨#[]⟩, .string ⟨#[]⟩, .bool false], flds := [(0, 1), (1, 3), (4, 1), (5, 1), (6, 1), (7, 1), (8, 1)], bytes := 120 } := by kernel_rfl
theorem tt42 : tt 42 = some { size := 1, agg := false, zero := [.nilFunc], bytes := 8 } := by kernel_rfl
theorem tt44 : tt 44 = some { size := 1, agg := false, zero := [.nilFunc], bytes := 8 } := by kernel_rfl
theorem tt45 : tt 45 = some { size := 1, agg := false, zero := [.nilFunc], bytes := 8 } := by kernel_rfl
theorem tt46 : tt 46 = some { size := 1, agg := false, zero := [.nilFunc], bytes := 8 } := by kernel_rfl
theorem tt47 : tt 47 = some { size := 1, agg := false, zero := [.nilFunc], bytes := 8 } := by kernel_rfl
theorem tt48 : tt 48 = some { size := 1, agg := false, zero := [.slice none 0 0], elem := some 78, bytes := 24 } := by kernel_rfl
theorem tt49 : tt 49 = some { size := 1, agg := false, zero := [.slice none 0 0], elem := some 78, bytes := 24 } := by kernel_rfl
theorem tt50 : tt 50 = some { size := 2, agg := true, zero := [.string ⟨#[]⟩, .slice none 0 0], flds := [(0, 1), (1, 1)], bytes := 40 } := by kernel_rfl
theorem tt51 : tt 51 = some { size := 2, agg := true, zero := [.string ⟨#[]⟩, .slice none 0 0], flds := [(0, 1), (1, 1)], bytes := 40 } := by kernel_rfl
theorem tt52 : tt 52 = some { size := 1, agg := false, zero := [.nilFunc], bytes := 8 } := by kernel_rfl
theorem tt53 : tt 53 = some { size := 4, agg := true, zero := [.string ⟨#[]⟩, .int .i64 0, .int .i64 0, .int .i64 0], flds := [(0, 1), (1, 3)], bytes := 40 } := by kernel_rfl
theorem tt54 : tt 54 = some { size := 4, agg := true, zero := [.string ⟨#[]⟩, .int .i64 0, .int .i64 0, .int .i64 0], flds := [(0, 1), (1, 3)], bytes := 40 } := by kernel_rfl
theorem tt56 : tt 56 = some { size := 1, agg := false, zero := [.nilFunc], bytes := 8 } := by kernel_rfl
theorem tt58 : tt 58 = some { size := 1, agg := false, zero := [.nilFunc], bytes := 8 } := by kernel_rfl
theorem tt59 : tt 59 = some { size := 1, agg := false, zero := [.nilFunc], bytes := 8 } := by kernel_rfl
theorem tt60 : tt 60 = some { size := 1, agg := false, zero := [.nilFunc], bytes := 8 } := by kernel_rfl
theorem tt61 : tt 61 = some { size := 1, agg := false, zero := [.nilFunc], bytes := 8 } := by kernel_rfl
theorem tt62 : tt 62 = some { size := 1, agg := false, zero := [.nilFunc], bytes := 8 } := by kernel_rfl
theorem tt63 : tt 63 = some { size := 1, agg := false, zero := [.nilFunc], bytes := 8 } := by kernel_rfl
theorem tt64 : tt 64 = some { size := 1, agg := false, zero := [.nilFunc], bytes := 8 } := by kernel_rfl
theorem tt65 : tt 65 = some { size := 1, agg := false, zero := [.nilFunc], bytes := 8 } := by kernel_rfl
theorem tt66 : tt 66 = some { size := 1, agg := false, zero := [.nilFunc], bytes := 8 } := by kernel_rfl
theorem tt67 : tt 67 = some { size := 1, agg := false, zero := [.nilFunc], bytes := 8 } := by kernel_rfl
theorem tt68 : tt 68 = some { size := 1, agg := false, zero := [.slice none 0 0], elem := some 38, bytes := 24 } := by kernel_rfl
theorem tt69 : tt 69 = some { size := 1, agg := false, zero := [.nilFunc], bytes := 8 } := by kernel_rfl
theorem tt70 : tt 70 = some { size := 1, agg := false, zero := [.nilFunc], bytes := 8 } := by kernel_rfl
theorem tt71 : tt 71 = some { size := 1, agg := false, zero := [.slice none 0 0], elem := some 9, bytes := 24 } := by kernel_rfl
theorem tt72 : tt 72 = some { size := 1, agg := false, zero := [.nilFunc], bytes := 8 } := by kernel_rfl
theorem tt73 : tt 73 = some { size := 1, agg := false, zero := [.nilFunc], bytes := 8 } := by kernel_rfl
theorem tt74 : tt 74 = some { size := 1, agg := false, zero := [.nilFunc], bytes := 8 } := by kernel_rfl
theorem tt75 : tt 75 = some { size := 1, agg := false, zero := [.nilFunc], bytes := 8 } := by kernel_rfl
theorem tt76 : tt 76 = some { size := 1, agg := false, zero := [.nilFunc], bytes := 8 } := by kernel_rfl
theorem tt77 : tt 77 = some { size := 2, agg := true, zero := [.int .i64 0, .int .i64 0], flds := [(0, 1), (1, 1)], bytes := 16 } := by kernel_rfl
theorem tt78 : tt 78 = some { size := 2, agg := true, zero := [.int .i64 0, .int .i64 0], flds := [(0, 1), (1, 1)], bytes := 16 } := by kernel_rfl
theorem tt79 : tt 79 = some { size := 1, agg := false, zero := [.map none], bytes := 8 } := by kernel_rfl
theorem tt80 : tt 80 = some { size := 1, agg := false, zero := [.map none], bytes := 8 } := by kernel_rfl
theorem tt81 : tt 81 = some { size := 2, agg := true, zero := [.map none, .map none], flds := [(0, 1), (1, 1)], bytes := 16 } := by kernel_rfl
theorem tt82 : tt 82 = some { size := 2, agg := true, zero := [.map none, .map none], flds := [(0, 1), (1, 1)], bytes := 16 } := by kernel_rfl
theorem tt84 : tt 84 = some { size := 1, agg := false, zero := [.nilFunc], bytes := 8 } := by kernel_rfl
theorem tt85 : tt 85 = some { size := 1, agg := false, zero := [.map none], bytes := 8 } := by kernel_rfl
theorem tt86 : tt 86 = some { size := 1, agg := false, zero := [.nilFunc], bytes := 8 } := by kernel_rfl
theorem tt87 : tt 87 = some { size := 1, agg := false, zero := [.nilFunc], bytes := 8 } := by kernel_rfl
theorem tt88 : tt 88 = some { size := 1, agg := false, zero := [.slice none 0 0], elem := some 4, bytes := 24 } := by kernel_rfl
theorem tt89 : tt 89 = some { size := 1, agg := false, zero := [.nilFunc], bytes := 8 } := by kernel_rfl
theorem tt91 : tt 91 = some { size := 1, agg := false, zero := [.nilFunc], bytes := 8 } := by kernel_rfl
theorem tt92 : tt 92 = some { size := 1, agg := false, zero := [.map none], bytes := 8 } := by kernel_rfl
theorem tt93 : tt 93 = some { size := 1, agg := false, zero := [.map none], bytes := 8 } := by kernel_rfl
theorem tt94 : tt 94 = some { size := 1, agg := false, zero := [.nilFunc], bytes := 8 } := by kernel_rfl
theorem tt95 : tt 95 = some { size := 1, agg := false, zero := [.nilFunc], bytes := 8 } := by kernel_rfl
theorem tt96 : tt 96 = some { size := 1, agg := false, zero := [.slice none 0 0], elem := some 3, bytes := 24 } := by kernel_rfl
theorem tt97 : tt 97 = some { size := 1, agg := false, zero := [.nilFunc], bytes := 8 } := by kernel_rfl
theorem tt98 : tt 98 = some { size := 1, agg := false, zero := [.nilFunc], bytes := 8 } := by kernel_rfl
theorem tt99 : tt 99 = some { size := 1, agg := false, zero := [.nilFunc], bytes := 8 } := by kernel_rfl
theorem tt100 : tt 100 = some { size := 1, agg := false, zero := [.nilFunc], bytes := 8 } := by kernel_rfl
theorem tt101 : tt 101 = some { size := 1, agg := false, zero := [.nilFunc], bytes := 8 } := by kernel_rfl
theorem tt102 : tt 102 = some { size := 1, agg := false, zero := [.nilFunc], bytes := 8 } := by kernel_rfl
theorem tt103 : tt 103 = some { size := 1, agg := false, zero := [.nilFunc], bytes := 8 } := by kernel_rfl
theorem tt104 : tt 104 = some { size := 1, agg := false, zero := [.pointer none], bytes := 8 } := by kernel_rfl
theorem tt105 : tt 105 = some { size := 1, agg := false, zero := [.nilFunc], bytes := 8 } := by kernel_rfl
theorem tt106 : tt 106 = some { size := 1, agg := false, zero := [.nilFunc], bytes := 8 } := by kernel_rfl
theorem tt108 : tt 108 = some { size := 1, agg := false, zero := [.nilFunc], bytes := 8 } := by kernel_rfl
theorem tt109 : tt 109 = some { size := 1, agg := false, zero := [.nilFunc], bytes := 8 } := by kernel_rfl
theorem tt110 : tt 110 = some { size := 1, agg := false, zero := [.nilFunc], bytes := 8 } := by kernel_rfl
theorem tt111 : tt 111 = some { size := 1, agg := false, zero := [.nilFunc], bytes := 8 } := by kernel_rfl
theorem tt113 : tt 113 = some { size := 1, agg := false, zero := [.nilFunc], bytes := 8 } := by kernel_rfl
theorem tt115 : tt 115 = some { size := 1, agg := false, zero := [.nilFunc], bytes := 8 } := by kernel_rfl
theorem tt117 : tt 117 = some { size := 1, agg := false, zero := [.nilFunc], bytes := 8 } := by kernel_rfl
theorem tt118 : tt 118 = some { size := 1, agg := false, zero := [.nilFunc], bytes := 8 } := by kernel_rfl
theorem tt119 : tt 119 = some { size := 1, agg := false, zero := [.nilFunc], bytes := 8 } := by kernel_rfl
theorem tt120 : tt 120 = some { size := 1, agg := false, zero := [.nilFunc], bytes := 8 } := by kernel_rfl
theorem tt121 : tt 121 = some { size := 1, agg := false, zero := [.nilFunc], bytes := 8 } := by kernel_rfl
theorem tt122 : tt 122 = some { size := 1, agg := false, zero := [.nilFunc], bytes := 8 } := by kernel_rfl
theorem tt123 : tt 123 = some { size := 1, agg := false, zero := [.nilFunc], bytes := 8 } := by kernel_rfl
theorem tt124 : tt 124 = some { size := 1, agg := false, zero := [.nilFunc], bytes := 8 } := by kernel_rfl
theorem tt125 : tt 125 = some { size := 1, agg := false, zero := [.nilFunc], bytes := 8 } := by kernel_rfl
theorem tt126 : tt 126 = some { size := 1, agg := false, zero := [.nilFunc], bytes := 8 } := by kernel_rfl
theorem tt127 : tt 127 = some { size := 1, agg := false, zero := [.nilFunc], bytes := 8 } := by kernel_rfl
theorem tt128 : tt 128 = some { size := 1, agg := false, zero := [.slice none 0 0], elem := some 27, bytes := 24 } := by kernel_rfl
theorem tt129 : tt 129 = some { size := 1, agg := false, zero := [.nilFunc], bytes := 8 } := by kernel_rfl
theorem tt130 : tt 130 = some { size := 1, agg := false, zero := [.nilFunc], bytes := 8 } := by kernel_rfl
theorem tt131 : tt 131 = some { size := 1, agg := false, zero := [.nilFunc], bytes := 8 } := by kernel_rfl
theorem tt132 : tt 132 = some { size := 1, agg := false, zero := [.nilFunc], bytes := 8 } := by kernel_rfl
theorem tt133 : tt 133 = some { size := 1, agg := false, zero := [.nilFunc], bytes := 8 } := by kernel_rfl
theorem tt134 : tt 134 = some { size := 1, agg := false, zero := [.nilFunc], bytes := 8 } := by kernel_rfl
theorem tt135 : tt 135 = some { size := 1, agg := false, zero := [.nilFunc], bytes := 8 } := by kernel_rfl
theorem tt136 : tt 136 = some { size := 1, agg := false, zero := [.int .u64 0], bytes := 8 } := by kernel_rfl
theorem tt137 : tt 137 = some { size := 1, agg := false, zero := [.nilFunc], bytes := 8 } := by kernel_rfl
theorem tt138 : tt 138 = some { size := 1, agg := false, zero := [.nilFunc], bytes := 8 } := by kernel_rfl
theorem tt139 : tt 139 = some { size := 3, agg := true, zero := [.string ⟨#[]⟩, .int .i64 0, .int .i64 0], flds := [(0, 1), (1, 1), (2, 1)], bytes := 32 } := by kernel_rfl
theorem tt140 : tt 140 = some { size := 3, agg := true, zero := [.string ⟨#[]⟩, .int .i64 0, .int .i64 0], flds := [(0, 1), (1, 1), (2, 1)], bytes := 32 } := by kernel_rfl
theorem tt141 : tt 141 = some { size := 1, agg := false, zero := [.nilFunc], bytes := 8 } := by kernel_rfl
theorem tt142 : tt 142 = some { size := 1, agg := false, zero := [.nilFunc], bytes := 8 } := by kernel_rfl
theorem tt143 : tt 143 = some { size := 1, agg := false, zero := [.nilFunc], bytes := 8 } := by kernel_rfl
theorem tt144 : tt 144 = some { size := 1, agg := false, zero := [.nilFunc], bytes := 8 } := by kernel_rfl
theorem tt145 : tt 145 = some { size := 1, agg := false, zero := [.nilFunc], bytes := 8 } := by kernel_rfl
theorem tt146 : tt 146 = some { size := 1, agg := false, zero := [.nilFunc], bytes := 8 } := by kernel_rfl
theorem tt148 : tt 148 = some { size := 1, agg := false, zero := [.nilFunc], bytes := 8 } := by kernel_rfl
theorem tt149 : tt 149 = some { size := 1, agg := false, zero := [.nilFunc], bytes := 8 } := by kernel_rfl
theorem tt150 : tt 150 = some { size := 1, agg := false, zero := [.nilFunc], bytes := 8 } := by kernel_rfl
theorem tt151 : tt 151 = some { size := 3, agg := true, zero := [.int .i64 0, .int .i64 0, .int .i64 0], bytes := 24 } := by kernel_rfl
theorem tt152 : tt 152 = some { size := 1, agg := false, zero := [.nilFunc], bytes := 8 } := by kernel_rfl
theorem tt153 : tt 153 = some { size := 1, agg := false, zero := [.nilFunc], bytes := 8 } := by kernel_rfl
theorem tt154 : tt 154 = some { size := 1, agg := false, zero := [.nilFunc], bytes := 8 } := by kernel_rfl
theorem tt155 : tt 155 = some { size := 1, agg := false, zero := [.nilFunc], bytes := 8 } := by kernel_rfl
theorem tt156 : tt 156 = some { size := 1, agg := false, zero := [.int .u64 0], bytes := 8 } := by kernel_rfl
theorem tt157 : tt 157 = some { size := 1, agg := false, zero := [.nilFunc], bytes := 8 } := by kernel_rfl
theorem tt158 : tt 158 = some { size := 1, agg := false, zero := [.nilFunc], bytes := 8 } := by kernel_rfl
theorem tt159 : tt 159 = some { size := 1, agg := false, zero := [.slice none 0 0], elem := some 5, bytes := 24 } := by kernel_rfl
theorem tt160 : tt 160 = some { size := 1, agg := false, zero := [.nilFunc], bytes := 8 } := by kernel_rfl
theorem tt161 : tt 161 = some { size := 1, agg := false, zero := [.nilFunc], bytes := 8 } := by kernel_rfl
theorem tt163 : tt 163 = some { size := 1, agg := false, zero := [.nilFunc], bytes := 8 } := by kernel_rfl
theorem tt164 : tt 164 = some { size := 1, agg := false, zero := [.nilFunc], bytes := 8 } := by kernel_rfl
theorem tt165 : tt 165 = some { size := 1, agg := false, zero := [.nilFunc], bytes := 8 } := by kernel_rfl
theorem tt166 : tt 166 = some { size := 1, agg := false, zero := [.nilFunc], bytes := 8 } := by kernel_rfl
theorem tt167 : tt 167 = some { size := 1, agg := false, zero := [.nilFunc], bytes := 8 } := by kernel_rfl
theorem tt168 : tt 168 = some { size := 1, agg := false, zero := [.pointer none], bytes := 8 } := by kernel_rfl
theorem tt169 : tt 169 = some { size := 1, agg := false, zero := [.nilFunc], bytes := 8 } := by kernel_rfl
theorem tt170 : tt 170 = some { size := 1, agg := false, zero := [.nilFunc], bytes := 8 } := by kernel_rfl
theorem tt171 : tt 171 = some { size := 1, agg := false, zero := [.nilFunc], bytes := 8 } := by kernel_rfl
theorem tt172 : tt 172 = some { size := 1, agg := false, zero := [.int .i64 0], bytes := 8 } := by kernel_rfl
theorem tt174 : tt 174 = some { size := 1, agg := false, zero := [.nilFunc], bytes := 8 } := by kernel_rfl
theorem tt175 : tt 175 = some { size := 1, agg := false, zero := [.nilFunc], bytes := 8 } := by kernel_rfl
theorem tt176 : tt 176 = some { size := 1, agg := false, zero := [.nilFunc], bytes := 8 } := by kernel_rfl
theorem tt177 : tt 177 = some { size := 1, agg := false, zero := [.nilFunc], bytes := 8 } := by kernel_rfl
theorem tt178 : tt 178 = some { size := 1, agg := false, zero := [.nilFunc], bytes := 8 } := by kernel_rfl
theorem tt179 : tt 179 = some { size := 1, agg := false, zero := [.nilFunc], bytes := 8 } := by kernel_rfl
theorem tt180 : tt 180 = some { size := 1, agg := false, zero := [.int .u32 0], bytes := 4 } := by kernel_rfl
theorem tt181 : tt 181 = some { size := 1, agg := false, zero := [.nilFunc], bytes := 8 } := by kernel_rfl
theorem tt182 : tt 182 = some { size := 1, agg := false, zero := [.nilFunc], bytes := 8 } := by kernel_rfl
theorem tt183 : tt 183 = some { size := 1, agg := false, zero := [.nilFunc], bytes := 8 } := by kernel_rfl
theorem tt185 : tt 185 = some { size := 1, agg := false, zero := [.nilFunc], bytes := 8 } := by kernel_rfl
theorem tt187 : tt 187 = some { size := 1, agg := false, zero := [.nilFunc], bytes := 8 } := by kernel_rfl
theorem tt188 : tt 188 = some { size := 1, agg := false, zero := [.nilFunc], bytes := 8 } := by kernel_rfl
theorem tt189 : tt 189 = some { size := 1, agg := false, zero := [.int .u64 0], bytes := 8 } := by kernel_rfl
theorem tt190 : tt 190 = some { size := 1, agg := false, zero := [.nilFunc], bytes := 8 } := by kernel_rfl
theorem tt191 : tt 191 = some { size := 1, agg := false, zero := [.nilFunc], bytes := 8 } := by kernel_rfl
theorem tt192 : tt 192 = some { size := 1, agg := false, zero := [.nilFunc], bytes := 8 } := by kernel_rfl
theorem tt193 : tt 193 = some { size := 1, agg := false, zero := [.pointer none], bytes := 8 } := by kernel_rfl
theorem tt194 : tt 194 = some { size := 1, agg := false, zero := [.nilFunc], bytes := 8 } := by kernel_rfl
theorem tt195 : tt 195 = some { size := 1, agg := false, zero := [.nilFunc], bytes := 8 } := by kernel_rfl
theorem tt196 : tt 196 = some { size := 1, agg := false, zero := [.nilFunc], bytes := 8 } := by kernel_rfl
theorem tt197 : tt 197 = some { size := 1, agg := false, zero := [.nilFunc], bytes := 8 } := by kernel_rfl
theorem tt198 : tt 198 = some { size := 1, agg := false, zero := [.nilFunc], bytes := 8 } := by kernel_rfl
theorem tt199 : tt 199 = some { size := 1, agg := false, zero := [.nilFunc], bytes := 8 } := by kernel_rfl
theorem tt200 : tt 200 = some { size := 1, agg := false, zero := [.nilFunc], bytes := 8 } := by kernel_rfl
theorem tt201 : tt 201 = some { size := 1, agg := false, zero := [.pointer none], bytes := 8 } := by kernel_rfl
theorem tt203 : tt 203 = some { size := 1, agg := false, zero := [.nilFunc], bytes := 8 } := by kernel_rfl
theorem tt204 : tt 204 = some { size := 1, agg := false, zero := [.nilFunc], bytes := 8 } := by kernel_rfl
theorem tt205 : tt 205 = some { size := 1, agg := false, zero := [.nilFunc], bytes := 8 } := by kernel_rfl
theorem tt207 : tt 207 = some { size := 1, agg := false, zero := [.nilFunc], bytes := 8 } := by kernel_rfl
theorem tt208 : tt 208 = some { size := 1, agg := false, zero := [.nilFunc], bytes := 8 } := by kernel_rfl
theorem tt209 : tt 209 = some { size := 1, agg := false, zero := [.nilFunc], bytes := 8 } := by kernel_rfl
theorem tt210 : tt 210 = some { size := 1, agg := false, zero := [.nilFunc], bytes := 8 } := by kernel_rfl
theorem tt212 : tt 212 = some { size := 2, agg := true, zero := [.int .u8 0, .int .u8 0], flds := [(0, 1), (1, 1)], bytes := 2 } := by kernel_rfl
theorem tt213 : tt 213 = some { size := 2, agg := true, zero := [.int .u8 0, .int .u8 0], flds := [(0, 1), (1, 1)], bytes := 2 } := by kernel_rfl
theorem tt214 : tt 214 = some { size := 32, agg := true, zero := [.int .u8 0, .int .u8 0, .int .u8 0, .int .u8 0, .int .u8 0, .int .u8 0, .int .u8 0, .int .u8 0, .int .u8 0, .int .u8 0, .int .u8 0, .int .u8 0, .int .u8 0, .int .u8 0, .int .u8 0, .int .u8 0, .int .u8 0, .int .u8 0, .int .u8 0, .int .u8 0, .int .u8 0, .int .u8 0, .int .u8 0, .int .u8 0, .int .u8 0, .int .u8 0, .int .u8 0, .int .u8 0, .int .u8 0, .int .u8 0, .int .u8 0, .int .u8 0], bytes := 32 } := by kernel_rfl
theorem tt215 : tt 215 = some { size := 4, agg := true, zero := [.pointer none, .pointer none, .pointer none, .string ⟨#[]⟩], flds := [(0, 1), (1, 1), (2, 1), (3, 1)], bytes := 40 } := by kernel_rfl
theorem tt216 : tt 216 = some { size := 4, agg := true, zero := [.pointer none, .pointer none, .pointer none, .string ⟨#[]⟩], flds := [(0, 1), (1, 1), (2, 1), (3, 1)], bytes := 40 } := by kernel_rfl
theorem tt217 : tt 217 = some { size := 0, agg := true, zero := [], bytes := 0 } := by kernel_rfl
theorem tt218 : tt 218 = some { size := 0, agg := true, zero := [], bytes := 0 } := by kernel_rfl
theorem tt219 : tt 219 = some { size := 0, agg := true, zero := [], bytes := 0 } := by kernel_rfl
theorem tt220 : tt 220 = some { size := 1, agg := false, zero := [.int .u8 0], bytes := 1 } := by kernel_rfl
theorem tt221 : tt 221 = some { size := 1, agg := false, zero := [.int .u8 0], bytes := 1 } := by kernel_rfl
theorem tt222 : tt 222 = some { size := 1, agg := false, zero := [.nilFunc], bytes := 8 } := by kernel_rfl
theorem tt223 : tt 223 = some { size := 1, agg := false, zero := [.pointer none], bytes := 8 } := by kernel_rfl
theorem tt224 : tt 224 = some { size := 1, agg := false, zero := [.int .i32 0], bytes := 4 } := by kernel_rfl
theorem tt225 : tt 225 = some { size := 1, agg := false, zero := [.int .i32 0], bytes := 4 } := by kernel_rfl
theorem tt226 : tt 226 = some { size := 11, agg := true, zero := [.int .u64 0, .int .u64 0, .int .u32 0, .int .u8 0, .int .u8 0, .int .u8 0, .int .u8 0, .nilFunc, .pointer none, .int .i32 0, .int .i32 0], flds := [(0, 1), (1, 1), (2, 1), (3, 1), (4, 1), (5, 1), (6, 1), (7, 1), (8, 1), (9, 1), (10, 1)], bytes := 48 } := by kernel_rfl
theorem tt227 : tt 227 = some { size := 11, agg := true, zero := [.int .u64 0, .int .u64 0, .int .u32 0, .int .u8 0, .int .u8 0, .int .u8 0, .int .u8 0, .nilFunc, .pointer none, .int .i32 0, .int .i32 0], flds := [(0, 1), (1, 1), (2, 1), (3, 1), (4, 1), (5, 1), (6, 1), (7, 1), (8, 1), (9, 1), (10, 1)], bytes := 48 } := by kernel_rfl
theorem tt228 : tt 228 = some { size := 1, agg := false, zero := [.slice none 0 0], elem := some 241, bytes := 24 } := by kernel_rfl
theorem tt229 : tt 229 = some { size := 1, agg := false, zero := [.slice none 0 0], elem := some 243, bytes := 24 } := by kernel_rfl
theorem tt230 : tt 230 = some { size := 1, agg := false, zero := [.slice none 0 0], elem := some 245, bytes := 24 } := by kernel_rfl
theorem tt231 : tt 231 = some { size := 1, agg := false, zero := [.slice none 0 0], elem := some 247, bytes := 24 } := by kernel_rfl
theorem tt232 : tt 232 = some { size := 5, agg := true, zero := [.string ⟨#[]⟩, .slice none 0 0, .slice none 0 0, .slice none 0 0, .slice none 0 0], flds := [(0, 1), (1, 1), (2, 1), (3, 1), (4, 1)], bytes := 112 } := by kernel_rfl
theorem tt233 : tt 233 = some { size := 5, agg := true, zero := [.string ⟨#[]⟩, .slice none 0 0, .slice none 0 0, .slice none 0 0, .slice none 0 0], flds := [(0, 1), (1, 1), (2, 1), (3, 1), (4, 1)], bytes := 112 } := by kernel_rfl
theorem tt234 : tt 234 = some { size := 1, agg := false, zero := [.pointer none], bytes := 8 } := by kernel_rfl
theorem tt235 : tt 235 = some { size := 1, agg := false, zero := [.slice none 0 0], elem := some 249, bytes := 24 } := by kernel_rfl
theorem tt236 : tt 236 = some { size := 1, agg := false, zero := [.slice none 0 0], elem := some 239, bytes := 24 } := by kernel_rfl
theorem tt237 : tt 237 = some { size := 1, agg := false, zero := [.slice none 0 0], elem := some 251, bytes := 24 } := by kernel_rfl
theorem tt238 : tt 238 = some { size := 5, agg := true, zero := [.int .i64 0, .string ⟨#[]⟩, .string ⟨#[]⟩, .slice none 0 0, .slice none 0 0], flds := [(0, 1), (1, 1), (2, 1), (3, 1), (4, 1)], bytes := 88 } := by kernel_rfl
theorem tt239 : tt 239 = some { size := 5, agg := true, zero := [.int .i64 0, .string ⟨#[]⟩, .string ⟨#[]⟩, .slice none 0 0, .slice none 0 0], flds := [(0, 1), (1, 1), (2, 1), (3, 1), (4, 1)], bytes := 88 } := by kernel_rfl
theorem tt240 : tt 240 = some { size := 12, agg := true, zero := [.string ⟨#[]⟩, .slice none 0 0, .int .i64 0, .string ⟨#[]⟩, .string ⟨#[]⟩, .slice none 0 0, .slice none 0 0, .int .i64 0, .string ⟨#[]⟩, .string ⟨#[]⟩, .slice none 0 0, .slice none 0 0], flds := [(0, 1), (1, 1), (2, 5), (7, 5)], bytes := 216 } := by kernel_rfl
theorem tt241 : tt 241 = some { size := 12, agg := true, zero := [.string ⟨#[]⟩, .slice none 0 0, .int .i64 0, .string ⟨#[]⟩, .string ⟨#[]⟩, .slice none 0 0, .slice none 0 0, .int .i64 0, .string ⟨#[]⟩, .string ⟨#[]⟩, .slice none 0 0, .slice none 0 0], flds := [(0, 1), (1, 1), (2, 5), (7, 5)], bytes := 216 } := by kernel_rfl
theorem tt242 : tt 242 = some { size := 7, agg := true, zero := [.string ⟨#[]⟩, .slice none 0 0, .int .i64 0, .string ⟨#[]⟩, .string ⟨#[]⟩, .slice none 0 0, .slice none 0 0], flds := [(0, 1), (1, 1), (2, 5)], bytes := 128 } := by kernel_rfl
theorem tt243 : tt 243 = some { size := 7, agg := true, zero := [.string ⟨#[]⟩, .slice none 0 0, .int .i64 0, .string ⟨#[]⟩, .string ⟨#[]⟩, .slice none 0 0, .slice none 0 0], flds := [(0, 1), (1, 1), (2, 5)], bytes := 128 } := by kernel_rfl
theorem tt244 : tt 244 = some { size := 3, agg := true, zero := [.string ⟨#[]⟩, .string ⟨#[]⟩, .string ⟨#[]⟩], flds := [(0, 1), (1, 1), (2, 1)], bytes := 48 } := by kernel_rfl
theorem tt245 : tt 245 = some { size := 3, agg := true, zero := [.string ⟨#[]⟩, .string ⟨#[]⟩, .string ⟨#[]⟩], flds := [(0, 1), (1, 1), (2, 1)], bytes := 48 } := by kernel_rfl
theorem tt246 : tt 246 = some { size := 2, agg := true, zero := [.string ⟨#[]⟩, .string ⟨#[]⟩], flds := [(0, 1), (1, 1)], bytes := 32 } := by kernel_rfl
theorem tt247 : tt 247 = some { size := 2, agg := true, zero := [.string ⟨#[]⟩, .string ⟨#[]⟩], flds := [(0, 1), (1, 1)], bytes := 32 } := by kernel_rfl
theorem tt248 : tt 248 = some { size := 7, agg := true, zero := [.string ⟨#[]⟩, .int .i64 0, .int .i64 0, .string ⟨#[]⟩, .string ⟨#[]⟩, .slice none 0 0, .slice none 0 0], flds := [(0, 1), (1, 1), (2, 5)], bytes := 112 } := by kernel_rfl
theorem tt249 : tt 249 = some { size := 7, agg := true, zero := [.string ⟨#[]⟩, .int .i64 0, .int .i64 0, .string ⟨#[]⟩, .string ⟨#[]⟩, .slice none 0 0, .slice none 0 0], flds := [(0, 1), (1, 1), (2, 5)], bytes := 112 } := by kernel_rfl
theorem tt250 : tt 250 = some { size := 7, agg := true, zero := [.string ⟨#[]⟩, .int .i64 0, .string ⟨#[]⟩, .string ⟨#[]⟩, .slice none 0 0, .slice none 0 0, .bool false], flds := [(0, 1), (1, 5), (6, 1)], bytes := 112 } := by kernel_rfl
theorem tt251 : tt 251 = some { size := 7, agg := true, zero := [.string ⟨#[]⟩, .int .i64 0, .string ⟨#[]⟩, .string ⟨#[]⟩, .slice none 0 0, .slice none 0 0, .bool false], flds := [(0, 1), (1, 5), (6, 1)], bytes := 112 } := by kernel_rfl
theorem hcall (f : FuncId) (fn : Func) (body : Code) (hf : Tryz.prog.funcs[f]? = some fn) (hb : fn.body = some body) (xs : Array Value) (w : World) : (callFunc f xs).run Tryz.prog w = .ok (.enter f xs) w := hcall_of (by kernel_rfl) f fn body hf hb xs w
def plans : Plans := planOf []
theorem ev_call {nat : NatF} {orc : FuncId → List V → Option V} (hor : OrcOk Tryz.prog orc) (hna : NatFOk Tryz.prog nat) (n : Nat) {f : FuncId} {vs : List V} {r : V} (h : pureF Tryz.prog tt (ev Tryz.prog tt plans nat orc n) f vs = some r) : FnOk Tryz.prog f vs r := ev_fn tt_ok mixed_ok hcall hor hna n h
/-- The functions of the model's own. -/
noncomputable def natS : NatF := fun f vs => if f = 196 then idxStr vs else natV Tryz.prog f vs
theorem natS_ok (hG : Glob.g = some 0) : NatFOk Tryz.prog natS := fun f vs r h => by
 unfold natS at h
 split at h
 ·rename_i hf
  subst hf
  exact idxStr_ok (fn := Tryz.f196) (by kernel_rfl) (by kernel_rfl) (by kernel_rfl) (by kernel_rfl) (by kernel_rfl) (fun w => by
   simp only [globalAddr,program,Sem.run_bind]
   show (match Tryz.prog.globals.findIdx? (fun x => x.name == "internal/bytealg.MaxLen") with | some g => _ | none => _ : Sem Addr).run Tryz.prog w = _
   rw [show Tryz.prog.globals.findIdx? (fun x => x.name == "internal/bytealg.MaxLen") = some 0 from by kernel_rfl]; rfl) hG h
 ·exact natV_ok h
end Go.Proofs.YtnfeacnbgbggfaaGreatDoor
end
