/-
  THE ENGINE, T: the table of this translation's types, written by program (gentab.lean), checked by the kernel.
-/
import Derived.Test.YtpjdfcigadnhcaaGreatDoorE3
import Derived.Test.YtpjdfcigadnhcaaGreatDoorProg
import Derived.KernelRfl
set_option linter.all false
section
namespace Go.Proofs.YtpjdfcigadnhcaaGreatDoor
open Go.Eng
variable [Glob]
abbrev pN : Pl := ⟨.n, 0, [], []⟩
/-- The types of the translation. -/
def tab : List (Nat × Ti) := [
 (1, { size := 1, agg := false, zero := [.nilFunc], bytes := 8 }),
 (2, { size := 1, agg := false, zero := [.int .i64 0], bytes := 8 }),
 (3, { size := 1, agg := false, zero := [.int .i64 0], bytes := 8 }),
 (4, { size := 1, agg := false, zero := [.bool false], bytes := 1 }),
 (5, { size := 1, agg := false, zero := [.int .u8 0], bytes := 1 }),
 (6, { size := 1, agg := false, zero := [.int .u8 0], bytes := 1 }),
 (7, { size := 4, agg := true, zero := [.int .i64 0, .int .i64 0, .bool false, .int .u8 0], flds := [(0, 1), (1, 1), (2, 1), (3, 1)], bytes := 24 }),
 (8, { size := 4, agg := true, zero := [.int .i64 0, .int .i64 0, .bool false, .int .u8 0], flds := [(0, 1), (1, 1), (2, 1), (3, 1)], bytes := 24 }),
 (9, { size := 1, agg := false, zero := [.string ⟨#[]⟩], bytes := 16 }),
 (10, { size := 1, agg := false, zero := [.string ⟨#[]⟩], bytes := 16 }),
 (11, { size := 1, agg := false, zero := [.string ⟨#[]⟩], bytes := 16 }),
 (12, { size := 1, agg := false, zero := [.int .u64 0], bytes := 8 }),
 (13, { size := 2, agg := true, zero := [.string ⟨#[]⟩, .int .u64 0], flds := [(0, 1), (1, 1)], bytes := 24 }),
 (14, { size := 2, agg := true, zero := [.string ⟨#[]⟩, .int .u64 0], flds := [(0, 1), (1, 1)], bytes := 24 }),
 (15, { size := 1, agg := false, zero := [.pointer none], bytes := 8 }),
 (16, { size := 1, agg := false, zero := [.pointer none], bytes := 8 }),
 (17, { size := 1, agg := false, zero := [.pointer none], bytes := 8 }),
 (18, { size := 1, agg := true, zero := [.pointer none], flds := [(0, 1)], bytes := 8 }),
 (19, { size := 1, agg := true, zero := [.pointer none], flds := [(0, 1)], bytes := 8 }),
 (20, { size := 1, agg := false, zero := [.nilIface], bytes := 16 }),
 (21, { size := 1, agg := false, zero := [.int .i32 0], bytes := 4 }),
 (22, { size := 1, agg := false, zero := [.slice none 0 0], elem := some 25, bytes := 24 }),
 (23, { size := 1, agg := false, zero := [.slice none 0 0], elem := some 86, bytes := 24 }),
 (24, { size := 5, agg := true, zero := [.int .i64 0, .string ⟨#[]⟩, .string ⟨#[]⟩, .slice none 0 0, .slice none 0 0], flds := [(0, 1), (1, 1), (2, 1), (3, 1), (4, 1)], bytes := 88 }),
 (25, { size := 5, agg := true, zero := [.int .i64 0, .string ⟨#[]⟩, .string ⟨#[]⟩, .slice none 0 0, .slice none 0 0], flds := [(0, 1), (1, 1), (2, 1), (3, 1), (4, 1)], bytes := 88 }),
 (26, { size := 1, agg := false, zero := [.slice none 0 0], elem := some 105, bytes := 24 }),
 (27, { size := 1, agg := false, zero := [.slice none 0 0], elem := some 29, bytes := 24 }),
 (28, { size := 8, agg := true, zero := [.int .i64 0, .string ⟨#[]⟩, .string ⟨#[]⟩, .string ⟨#[]⟩, .int .i64 0, .slice none 0 0, .slice none 0 0, .slice none 0 0], flds := [(0, 1), (1, 1), (2, 1), (3, 1), (4, 1), (5, 1), (6, 1), (7, 1)], bytes := 136 }),
 (29, { size := 8, agg := true, zero := [.int .i64 0, .string ⟨#[]⟩, .string ⟨#[]⟩, .string ⟨#[]⟩, .int .i64 0, .slice none 0 0, .slice none 0 0, .slice none 0 0], flds := [(0, 1), (1, 1), (2, 1), (3, 1), (4, 1), (5, 1), (6, 1), (7, 1)], bytes := 136 }),
 (30, { size := 1, agg := false, zero := [.slice none 0 0], elem := some 109, bytes := 24 }),
 (31, { size := 1, agg := false, zero := [.slice none 0 0], elem := some 75, bytes := 24 }),
 (32, { size := 3, agg := true, zero := [.string ⟨#[]⟩, .slice none 0 0, .slice none 0 0], flds := [(0, 1), (1, 1), (2, 1)], bytes := 64 }),
 (33, { size := 3, agg := true, zero := [.string ⟨#[]⟩, .slice none 0 0, .slice none 0 0], flds := [(0, 1), (1, 1), (2, 1)], bytes := 64 }),
 (34, { size := 1, agg := false, zero := [.nilFunc], bytes := 8 }),
 (35, { size := 1, agg := false, zero := [.nilFunc], bytes := 8 }),
 (36, { size := 1, agg := false, zero := [.nilFunc], bytes := 8 }),
 (37, { size := 1, agg := false, zero := [.nilFunc], bytes := 8 }),
 (38, { size := 1, agg := false, zero := [.nilFunc], bytes := 8 }),
 (39, { size := 1, agg := false, zero := [.nilFunc], bytes := 8 }),
 (40, { size := 1, agg := false, zero := [.int .i64 0], bytes := 8 }),
 (41, { size := 1, agg := false, zero := [.nilFunc], bytes := 8 }),
 (42, { size := 1, agg := false, zero := [.nilFunc], bytes := 8 }),
 (43, { size := 1, agg := false, zero := [.nilFunc], bytes := 8 }),
 (44, { size := 1, agg := false, zero := [.nilFunc], bytes := 8 }),
 (45, { size := 1, agg := false, zero := [.nilFunc], bytes := 8 }),
 (46, { size := 1, agg := false, zero := [.slice none 0 0], elem := some 9, bytes := 24 }),
 (47, { size := 1, agg := false, zero := [.nilFunc], bytes := 8 }),
 (48, { size := 1, agg := false, zero := [.nilFunc], bytes := 8 }),
 (49, { size := 1, agg := false, zero := [.nilFunc], bytes := 8 }),
 (50, { size := 1, agg := false, zero := [.nilFunc], bytes := 8 }),
 (51, { size := 1, agg := false, zero := [.nilFunc], bytes := 8 }),
 (52, { size := 1, agg := false, zero := [.nilFunc], bytes := 8 }),
 (53, { size := 1, agg := false, zero := [.nilFunc], bytes := 8 }),
 (55, { size := 1, agg := false, zero := [.nilFunc], bytes := 8 }),
 (56, { size := 1, agg := false, zero := [.nilFunc], bytes := 8 }),
 (57, { size := 1, agg := false, zero := [.nilFunc], bytes := 8 }),
 (58, { size := 1, agg := false, zero := [.nilFunc], bytes := 8 }),
 (59, { size := 1, agg := false, zero := [.slice none 0 0], elem := some 65, bytes := 24 }),
 (60, { size := 1, agg := false, zero := [.nilFunc], bytes := 8 }),
 (61, { size := 1, agg := false, zero := [.nilFunc], bytes := 8 }),
 (62, { size := 1, agg := false, zero := [.nilFunc], bytes := 8 }),
 (63, { size := 1, agg := false, zero := [.nilFunc], bytes := 8 }),
 (64, { size := 2, agg := true, zero := [.string ⟨#[]⟩, .string ⟨#[]⟩], flds := [(0, 1), (1, 1)], bytes := 32 }),
 (65, { size := 2, agg := true, zero := [.string ⟨#[]⟩, .string ⟨#[]⟩], flds := [(0, 1), (1, 1)], bytes := 32 }),
 (66, { size := 1, agg := false, zero := [.nilFunc], bytes := 8 }),
 (67, { size := 1, agg := false, zero := [.nilFunc], bytes := 8 }),
 (68, { size := 1, agg := false, zero := [.nilFunc], bytes := 8 }),
 (69, { size := 1, agg := false, zero := [.nilFunc], bytes := 8 }),
 (70, { size := 1, agg := false, zero := [.nilFunc], bytes := 8 }),
 (71, { size := 1, agg := false, zero := [.nilFunc], bytes := 8 }),
 (72, { size := 1, agg := false, zero := [.nilFunc], bytes := 8 }),
 (73, { size := 1, agg := false, zero := [.slice none 0 0], elem := some 77, bytes := 24 }),
 (74, { size := 31, agg := true, zero := [.int .i64 0, .string ⟨#[]⟩, .bool false, .bool false, .string ⟨#[]⟩, .slice none 0 0, .int .i64 0, .string ⟨#[]⟩, .string ⟨#[]⟩, .slice none 0 0, .slice none 0 0, .int .i64 0, .string ⟨#[]⟩, .string ⟨#[]⟩, .slice none 0 0, .slice none 0 0, .int .i64 0, .string ⟨#[]⟩, .string ⟨#[]⟩, .slice none 0 0, .slice none 0 0, .int .i64 0, .string ⟨#[]⟩, .string ⟨#[]⟩, .string ⟨#[]⟩, .int .i64 0, .slice none 0 0, .slice none 0 0, .slice none 0 0, .string ⟨#[]⟩, .string ⟨#[]⟩], flds := [(0, 1), (1, 1), (2, 1), (3, 1), (4, 1), (5, 1), (6, 5), (11, 5), (16, 5), (21, 8), (29, 1), (30, 1)], bytes := 504 }),
 (75, { size := 31, agg := true, zero := [.int .i64 0, .string ⟨#[]⟩, .bool false, .bool false, .string ⟨#[]⟩, .slice none 0 0, .int .i64 0, .string ⟨#[]⟩, .string ⟨#[]⟩, .slice none 0 0, .slice none 0 0, .int .i64 0, .string ⟨#[]⟩, .string ⟨#[]⟩, .slice none 0 0, .slice none 0 0, .int .i64 0, .string ⟨#[]⟩, .string ⟨#[]⟩, .slice none 0 0, .slice none 0 0, .int .i64 0, .string ⟨#[]⟩, .string ⟨#[]⟩, .string ⟨#[]⟩, .int .i64 0, .slice none 0 0, .slice none 0 0, .slice none 0 0, .string ⟨#[]⟩, .string ⟨#[]⟩], flds := [(0, 1), (1, 1), (2, 1), (3, 1), (4, 1), (5, 1), (6, 5), (11, 5), (16, 5), (21, 8), (29, 1), (30, 1)], bytes := 504 }),
 (76, { size := 7, agg := true, zero := [.string ⟨#[]⟩, .int .i64 0, .int .i64 0, .string ⟨#[]⟩, .string ⟨#[]⟩, .slice none 0 0, .slice none 0 0], flds := [(0, 1), (1, 1), (2, 5)], bytes := 112 }),
 (77, { size := 7, agg := true, zero := [.string ⟨#[]⟩, .int .i64 0, .int .i64 0, .string ⟨#[]⟩, .string ⟨#[]⟩, .slice none 0 0, .slice none 0 0], flds := [(0, 1), (1, 1), (2, 5)], bytes := 112 }),
 (78, { size := 1, agg := false, zero := [.nilFunc], bytes := 8 }),
 (79, { size := 1, agg := false, zero := [.nilFunc], bytes := 8 }),
 (80, { size := 1, agg := false, zero := [.nilFunc], bytes := 8 }),
 (81, { size := 1, agg := false, zero := [.nilFunc], bytes := 8 }),
 (82, { size := 1, agg := false, zero := [.nilFunc], bytes := 8 }),
 (83, { size := 1, agg := false, zero := [.nilFunc], bytes := 8 }),
 (84, { size := 1, agg := false, zero := [.nilFunc], bytes := 8 }),
 (85, { size := 7, agg := true, zero := [.string ⟨#[]⟩, .int .i64 0, .string ⟨#[]⟩, .string ⟨#[]⟩, .slice none 0 0, .slice none 0 0, .bool false], flds := [(0, 1), (1, 5), (6, 1)], bytes := 112 }),
 (86, { size := 7, agg := true, zero := [.string ⟨#[]⟩, .int .i64 0, .string ⟨#[]⟩, .string ⟨#[]⟩, .slice none 0 0, .slice none 0 0, .bool false], flds := [(0, 1), (1, 5), (6, 1)], bytes := 112 }),
 (87, { size := 1, agg := false, zero := [.map none], bytes := 8 }),
 (88, { size := 1, agg := false, zero := [.nilFunc], bytes := 8 }),
 (89, { size := 1, agg := false, zero := [.nilFunc], bytes := 8 }),
 (90, { size := 1, agg := false, zero := [.nilFunc], bytes := 8 }),
 (91, { size := 1, agg := false, zero := [.nilFunc], bytes := 8 }),
 (92, { size := 1, agg := false, zero := [.nilFunc], bytes := 8 }),
 (93, { size := 1, agg := false, zero := [.nilFunc], bytes := 8 }),
 (94, { size := 1, agg := false, zero := [.nilFunc], bytes := 8 }),
 (95, { size := 1, agg := false, zero := [.nilFunc], bytes := 8 }),
 (96, { size := 1, agg := false, zero := [.map none], bytes := 8 }),
 (97, { size := 1, agg := false, zero := [.nilFunc], bytes := 8 }),
 (98, { size := 1, agg := false, zero := [.nilFunc], bytes := 8 }),
 (99, { size := 1, agg := false, zero := [.nilFunc], bytes := 8 }),
 (100, { size := 1, agg := false, zero := [.nilFunc], bytes := 8 }),
 (101, { size := 1, agg := false, zero := [.nilFunc], bytes := 8 }),
 (102, { size := 1, agg := false, zero := [.nilFunc], bytes := 8 }),
 (103, { size := 1, agg := false, zero := [.nilFunc], bytes := 8 }),
 (104, { size := 8, agg := true, zero := [.string ⟨#[]⟩, .string ⟨#[]⟩, .int .i64 0, .string ⟨#[]⟩, .string ⟨#[]⟩, .slice none 0 0, .slice none 0 0, .bool false], flds := [(0, 1), (1, 1), (2, 5), (7, 1)], bytes := 128 }),
 (105, { size := 8, agg := true, zero := [.string ⟨#[]⟩, .string ⟨#[]⟩, .int .i64 0, .string ⟨#[]⟩, .string ⟨#[]⟩, .slice none 0 0, .slice none 0 0, .bool false], flds := [(0, 1), (1, 1), (2, 5), (7, 1)], bytes := 128 }),
 (106, { size := 1, agg := false, zero := [.nilFunc], bytes := 8 }),
 (107, { size := 1, agg := false, zero := [.nilFunc], bytes := 8 }),
 (108, { size := 2, agg := true, zero := [.string ⟨#[]⟩, .string ⟨#[]⟩], flds := [(0, 1), (1, 1)], bytes := 32 }),
 (109, { size := 2, agg := true, zero := [.string ⟨#[]⟩, .string ⟨#[]⟩], flds := [(0, 1), (1, 1)], bytes := 32 }),
 (110, { size := 1, agg := false, zero := [.nilFunc], bytes := 8 }),
 (111, { size := 1, agg := false, zero := [.nilFunc], bytes := 8 }),
 (112, { size := 1, agg := false, zero := [.nilFunc], bytes := 8 }),
 (113, { size := 1, agg := false, zero := [.nilFunc], bytes := 8 }),
 (114, { size := 1, agg := false, zero := [.nilFunc], bytes := 8 }),
 (115, { size := 1, agg := false, zero := [.map none], bytes := 8 }),
 (116, { size := 1, agg := false, zero := [.nilFunc], bytes := 8 }),
 (117, { size := 1, agg := false, zero := [.nilFunc], bytes := 8 }),
 (118, { size := 1, agg := false, zero := [.nilFunc], bytes := 8 }),
 (119, { size := 1, agg := false, zero := [.nilFunc], bytes := 8 }),
 (120, { size := 1, agg := false, zero := [.nilFunc], bytes := 8 }),
 (121, { size := 1, agg := false, zero := [.nilFunc], bytes := 8 }),
 (122, { size := 1, agg := false, zero := [.nilFunc], bytes := 8 }),
 (123, { size := 1, agg := false, zero := [.nilFunc], bytes := 8 }),
 (124, { size := 1, agg := false, zero := [.nilFunc], bytes := 8 }),
 (125, { size := 1, agg := false, zero := [.int .u64 0], bytes := 8 }),
 (126, { size := 1, agg := false, zero := [.nilFunc], bytes := 8 }),
 (127, { size := 1, agg := false, zero := [.nilFunc], bytes := 8 }),
 (128, { size := 1, agg := false, zero := [.nilFunc], bytes := 8 }),
 (129, { size := 1, agg := false, zero := [.nilFunc], bytes := 8 }),
 (130, { size := 1, agg := false, zero := [.nilFunc], bytes := 8 }),
 (131, { size := 1, agg := false, zero := [.nilFunc], bytes := 8 }),
 (132, { size := 1, agg := false, zero := [.nilFunc], bytes := 8 }),
 (133, { size := 4, agg := true, zero := [.string ⟨#[]⟩, .int .i64 0, .bool false, .int .i64 0], flds := [(0, 1), (1, 1), (2, 1), (3, 1)], bytes := 40 }),
 (134, { size := 4, agg := true, zero := [.string ⟨#[]⟩, .int .i64 0, .bool false, .int .i64 0], flds := [(0, 1), (1, 1), (2, 1), (3, 1)], bytes := 40 }),
 (136, { size := 1, agg := false, zero := [.nilFunc], bytes := 8 }),
 (137, { size := 1, agg := false, zero := [.nilFunc], bytes := 8 }),
 (138, { size := 1, agg := false, zero := [.nilFunc], bytes := 8 }),
 (139, { size := 1, agg := false, zero := [.nilFunc], bytes := 8 }),
 (140, { size := 1, agg := false, zero := [.nilFunc], bytes := 8 }),
 (141, { size := 1, agg := false, zero := [.nilFunc], bytes := 8 }),
 (142, { size := 1, agg := false, zero := [.nilFunc], bytes := 8 }),
 (143, { size := 1, agg := false, zero := [.nilFunc], bytes := 8 }),
 (144, { size := 1, agg := false, zero := [.nilFunc], bytes := 8 }),
 (145, { size := 1, agg := false, zero := [.nilFunc], bytes := 8 }),
 (146, { size := 1, agg := false, zero := [.nilFunc], bytes := 8 }),
 (147, { size := 1, agg := false, zero := [.nilFunc], bytes := 8 }),
 (148, { size := 1, agg := false, zero := [.nilFunc], bytes := 8 }),
 (149, { size := 1, agg := false, zero := [.slice none 0 0], elem := some 3, bytes := 24 }),
 (150, { size := 1, agg := false, zero := [.nilFunc], bytes := 8 }),
 (151, { size := 1, agg := false, zero := [.int .i64 0], bytes := 8 }),
 (153, { size := 1, agg := false, zero := [.nilFunc], bytes := 8 }),
 (154, { size := 1, agg := false, zero := [.nilFunc], bytes := 8 }),
 (155, { size := 1, agg := false, zero := [.nilFunc], bytes := 8 }),
 (156, { size := 1, agg := false, zero := [.nilFunc], bytes := 8 }),
 (158, { size := 1, agg := false, zero := [.nilFunc], bytes := 8 }),
 (159, { size := 1, agg := false, zero := [.nilFunc], bytes := 8 }),
 (160, { size := 1, agg := false, zero := [.int .u32 0], bytes := 4 }),
 (161, { size := 1, agg := false, zero := [.nilFunc], bytes := 8 }),
 (162, { size := 1, agg := false, zero := [.int .u64 0], bytes := 8 }),
 (163, { size := 1, agg := false, zero := [.nilFunc], bytes := 8 }),
 (164, { size := 1, agg := false, zero := [.nilFunc], bytes := 8 }),
 (165, { size := 1, agg := false, zero := [.nilFunc], bytes := 8 }),
 (166, { size := 1, agg := false, zero := [.nilFunc], bytes := 8 }),
 (167, { size := 1, agg := false, zero := [.nilFunc], bytes := 8 }),
 (168, { size := 1, agg := false, zero := [.nilFunc], bytes := 8 }),
 (169, { size := 1, agg := false, zero := [.nilFunc], bytes := 8 }),
 (170, { size := 1, agg := false, zero := [.nilFunc], bytes := 8 }),
 (171, { size := 1, agg := false, zero := [.nilFunc], bytes := 8 }),
 (172, { size := 1, agg := false, zero := [.nilFunc], bytes := 8 }),
 (173, { size := 1, agg := false, zero := [.nilFunc], bytes := 8 }),
 (174, { size := 1, agg := false, zero := [.nilFunc], bytes := 8 }),
 (175, { size := 1, agg := false, zero := [.nilFunc], bytes := 8 }),
 (176, { size := 1, agg := false, zero := [.nilFunc], bytes := 8 }),
 (177, { size := 1, agg := false, zero := [.nilFunc], bytes := 8 }),
 (178, { size := 1, agg := false, zero := [.nilFunc], bytes := 8 }),
 (179, { size := 1, agg := false, zero := [.nilFunc], bytes := 8 }),
 (180, { size := 1, agg := false, zero := [.int .u64 0], bytes := 8 }),
 (181, { size := 1, agg := false, zero := [.nilFunc], bytes := 8 }),
 (182, { size := 1, agg := false, zero := [.nilFunc], bytes := 8 }),
 (183, { size := 1, agg := false, zero := [.nilFunc], bytes := 8 }),
 (184, { size := 1, agg := false, zero := [.pointer none], bytes := 8 }),
 (185, { size := 1, agg := false, zero := [.nilFunc], bytes := 8 }),
 (186, { size := 1, agg := false, zero := [.nilFunc], bytes := 8 }),
 (187, { size := 1, agg := false, zero := [.nilFunc], bytes := 8 }),
 (188, { size := 1, agg := false, zero := [.nilFunc], bytes := 8 }),
 (189, { size := 1, agg := false, zero := [.nilFunc], bytes := 8 }),
 (190, { size := 1, agg := false, zero := [.nilFunc], bytes := 8 }),
 (191, { size := 1, agg := false, zero := [.nilFunc], bytes := 8 }),
 (192, { size := 1, agg := false, zero := [.nilFunc], bytes := 8 }),
 (193, { size := 1, agg := false, zero := [.nilFunc], bytes := 8 }),
 (194, { size := 1, agg := false, zero := [.pointer none], bytes := 8 }),
 (196, { size := 1, agg := false, zero := [.nilFunc], bytes := 8 }),
 (197, { size := 1, agg := false, zero := [.nilFunc], bytes := 8 }),
 (198, { size := 1, agg := false, zero := [.nilFunc], bytes := 8 }),
 (200, { size := 1, agg := false, zero := [.nilFunc], bytes := 8 }),
 (201, { size := 1, agg := false, zero := [.nilFunc], bytes := 8 }),
 (202, { size := 1, agg := false, zero := [.nilFunc], bytes := 8 }),
 (203, { size := 1, agg := false, zero := [.nilFunc], bytes := 8 }),
 (204, { size := 1, agg := false, zero := [.nilFunc], bytes := 8 }),
 (206, { size := 1, agg := false, zero := [.nilFunc], bytes := 8 }),
 (208, { size := 1, agg := false, zero := [.nilFunc], bytes := 8 }),
 (209, { size := 1, agg := false, zero := [.slice none 0 0], elem := some 5, bytes := 24 }),
 (211, { size := 2, agg := true, zero := [.int .u8 0, .int .u8 0], flds := [(0, 1), (1, 1)], bytes := 2 }),
 (212, { size := 2, agg := true, zero := [.int .u8 0, .int .u8 0], flds := [(0, 1), (1, 1)], bytes := 2 }),
 (213, { size := 32, agg := true, zero := [.int .u8 0, .int .u8 0, .int .u8 0, .int .u8 0, .int .u8 0, .int .u8 0, .int .u8 0, .int .u8 0, .int .u8 0, .int .u8 0, .int .u8 0, .int .u8 0, .int .u8 0, .int .u8 0, .int .u8 0, .int .u8 0, .int .u8 0, .int .u8 0, .int .u8 0, .int .u8 0, .int .u8 0, .int .u8 0, .int .u8 0, .int .u8 0, .int .u8 0, .int .u8 0, .int .u8 0, .int .u8 0, .int .u8 0, .int .u8 0, .int .u8 0, .int .u8 0], bytes := 32 }),
 (214, { size := 1, agg := false, zero := [.nilFunc], bytes := 8 }),
 (215, { size := 4, agg := true, zero := [.pointer none, .pointer none, .pointer none, .string ⟨#[]⟩], flds := [(0, 1), (1, 1), (2, 1), (3, 1)], bytes := 40 }),
 (216, { size := 4, agg := true, zero := [.pointer none, .pointer none, .pointer none, .string ⟨#[]⟩], flds := [(0, 1), (1, 1), (2, 1), (3, 1)], bytes := 40 }),
 (217, { size := 0, agg := true, zero := [], bytes := 0 }),
 (218, { size := 0, agg := true, zero := [], bytes := 0 }),
 (219, { size := 0, agg := true, zero := [], bytes := 0 }),
 (220, { size := 1, agg := false, zero := [.nilFunc], bytes := 8 }),
 (221, { size := 1, agg := false, zero := [.int .u8 0], bytes := 1 }),
 (222, { size := 1, agg := false, zero := [.int .u8 0], bytes := 1 }),
 (223, { size := 1, agg := false, zero := [.nilFunc], bytes := 8 }),
 (224, { size := 1, agg := false, zero := [.pointer none], bytes := 8 }),
 (225, { size := 1, agg := false, zero := [.int .i32 0], bytes := 4 }),
 (226, { size := 1, agg := false, zero := [.int .i32 0], bytes := 4 }),
 (227, { size := 11, agg := true, zero := [.int .u64 0, .int .u64 0, .int .u32 0, .int .u8 0, .int .u8 0, .int .u8 0, .int .u8 0, .nilFunc, .pointer none, .int .i32 0, .int .i32 0], flds := [(0, 1), (1, 1), (2, 1), (3, 1), (4, 1), (5, 1), (6, 1), (7, 1), (8, 1), (9, 1), (10, 1)], bytes := 48 }),
 (228, { size := 11, agg := true, zero := [.int .u64 0, .int .u64 0, .int .u32 0, .int .u8 0, .int .u8 0, .int .u8 0, .int .u8 0, .nilFunc, .pointer none, .int .i32 0, .int .i32 0], flds := [(0, 1), (1, 1), (2, 1), (3, 1), (4, 1), (5, 1), (6, 1), (7, 1), (8, 1), (9, 1), (10, 1)], bytes := 48 }),
 (229, { size := 1, agg := false, zero := [.pointer none], bytes := 8 })]
def tt : Table := lookupT tab
theorem tt_ok : TT Tryz.prog tt := tt_of (P := Tryz.prog) (l := tab) (by kernel_rfl)
theorem mixed_ok : Tryz.prog.follows .mixedOrders = true := by kernel_rfl

theorem tt1 : tt 1 = some { size := 1, agg := false, zero := [.nilFunc], bytes := 8 } := by kernel_rfl
theorem tt2 : tt 2 = some { size := 1, agg := false, zero := [.int .i64 0], bytes := 8 } := by kernel_rfl
theorem tt3 : tt 3 = some { size := 1, agg := false, zero := [.int .i64 0], bytes := 8 } := by kernel_rfl
theorem tt4 : tt 4 = some { size := 1, agg := false, zero := [.bool false], bytes := 1 } := by kernel_rfl
theorem tt5 : tt 5 = some { size := 1, agg := false, zero := [.int .u8 0], bytes := 1 } := by kernel_rfl
theorem tt6 : tt 6 = some { size := 1, agg := false, zero := [.int .u8 0], bytes := 1 } := by kernel_rfl
theorem tt7 : tt 7 = some { size := 4, agg := true, zero := [.int .i64 0, .int .i64 0, .bool false, .int .u8 0], flds := [(0, 1), (1, 1), (2, 1), (3, 1)], bytes := 24 } := by kernel_rfl
theorem tt8 : tt 8 = some { size := 4, agg := true, zero := [.int .i64 0, .int .i64 0, .bool false, .int .u8 0], flds := [(0, 1), (1, 1), (2, 1), (3, 1)], bytes := 24 } := by kernel_rfl
theorem tt9 : tt 9 = some { size := 1, agg := false, zero := [.string ⟨#[]⟩], bytes := 16 } := by kernel_rfl
theorem tt10 : tt 10 = some { size := 1, agg := false, zero := [.string ⟨#[]⟩], bytes := 16 } := by kernel_rfl
theorem tt11 : tt 11 = some { size := 1, agg := false, zero := [.string ⟨#[]⟩], bytes := 16 } := by kernel_rfl
theorem tt12 : tt 12 = some { size := 1, agg := false, zero := [.int .u64 0], bytes := 8 } := by kernel_rfl
theorem tt13 : tt 13 = some { size := 2, agg := true, zero := [.string ⟨#[]⟩, .int .u64 0], flds := [(0, 1), (1, 1)], bytes := 24 } := by kernel_rfl
theorem tt14 : tt 14 = some { size := 2, agg := true, zero := [.string ⟨#[]⟩, .int .u64 0], flds := [(0, 1), (1, 1)], bytes := 24 } := by kernel_rfl
theorem tt15 : tt 15 = some { size := 1, agg := false, zero := [.pointer none], bytes := 8 } := by kernel_rfl
theorem tt16 : tt 16 = some { size := 1, agg := false, zero := [.pointer none], bytes := 8 } := by kernel_rfl
theorem tt17 : tt 17 = some { size := 1, agg := false, zero := [.pointer none], bytes := 8 } := by kernel_rfl
theorem tt18 : tt 18 = some { size := 1, agg := true, zero := [.pointer none], flds := [(0, 1)], bytes := 8 } := by kernel_rfl
theorem tt19 : tt 19 = some { size := 1, agg := true, zero := [.pointer none], flds := [(0, 1)], bytes := 8 } := by kernel_rfl
theorem tt20 : tt 20 = some { size := 1, agg := false, zero := [.nilIface], bytes := 16 } := by kernel_rfl
theorem tt21 : tt 21 = some { size := 1, agg := false, zero := [.int .i32 0], bytes := 4 } := by kernel_rfl
theorem tt22 : tt 22 = some { size := 1, agg := false, zero := [.slice none 0 0], elem := some 25, bytes := 24 } := by kernel_rfl
theorem tt23 : tt 23 = some { size := 1, agg := false, zero := [.slice none 0 0], elem := some 86, bytes := 24 } := by kernel_rfl
theorem tt24 : tt 24 = some { size := 5, agg := true, zero := [.int .i64 0, .string ⟨#[]⟩, .string ⟨#[]⟩, .slice none 0 0, .slice none 0 0], flds := [(0, 1), (1, 1), (2, 1), (3, 1), (4, 1)], bytes := 88 } := by kernel_rfl
theorem tt25 : tt 25 = some { size := 5, agg := true, zero := [.int .i64 0, .string ⟨#[]⟩, .string ⟨#[]⟩, .slice none 0 0, .slice none 0 0], flds := [(0, 1), (1, 1), (2, 1), (3, 1), (4, 1)], bytes := 88 } := by kernel_rfl
theorem tt26 : tt 26 = some { size := 1, agg := false, zero := [.slice none 0 0], elem := some 105, bytes := 24 } := by kernel_rfl
theorem tt27 : tt 27 = some { size := 1, agg := false, zero := [.slice none 0 0], elem := some 29, bytes := 24 } := by kernel_rfl
theorem tt28 : tt 28 = some { size := 8, agg := true, zero := [.int .i64 0, .string ⟨#[]⟩, .string ⟨#[]⟩, .string ⟨#[]⟩, .int .i64 0, .slice none 0 0, .slice none 0 0, .slice none 0 0], flds := [(0, 1), (1, 1), (2, 1), (3, 1), (4, 1), (5, 1), (6, 1), (7, 1)], bytes := 136 } := by kernel_rfl
theorem tt29 : tt 29 = some { size := 8, agg := true, zero := [.int .i64 0, .string ⟨#[]⟩, .string ⟨#[]⟩, .string ⟨#[]⟩, .int .i64 0, .slice none 0 0, .slice none 0 0, .slice none 0 0], flds := [(0, 1), (1, 1), (2, 1), (3, 1), (4, 1), (5, 1), (6, 1), (7, 1)], bytes := 136 } := by kernel_rfl
theorem tt30 : tt 30 = some { size := 1, agg := false, zero := [.slice none 0 0], elem := some 109, bytes := 24 } := by kernel_rfl
theorem tt31 : tt 31 = some { size := 1, agg := false, zero := [.slice none 0 0], elem := some 75, bytes := 24 } := by kernel_rfl
theorem tt32 : tt 32 = some { size := 3, agg := true, zero := [.string ⟨#[]⟩, .slice none 0 0, .slice none 0 0], flds := [(0, 1), (1, 1), (2, 1)], bytes := 64 } := by kernel_rfl
theorem tt33 : tt 33 = some { size := 3, agg := true, zero := [.string ⟨#[]⟩, .slice none 0 0, .slice none 0 0], flds := [(0, 1), (1, 1), (2, 1)], bytes := 64 } := by kernel_rfl
theorem tt34 : tt 34 = some { size := 1, agg := false, zero := [.nilFunc], bytes := 8 } := by kernel_rfl
theorem tt35 : tt 35 = some { size := 1, agg := false, zero := [.nilFunc], bytes := 8 } := by kernel_rfl
theorem tt36 : tt 36 = some { size := 1, agg := false, zero := [.nilFunc], bytes := 8 } := by kernel_rfl
theorem tt37 : tt 37 = some { size := 1, agg := false, zero := [.nilFunc], bytes := 8 } := by kernel_rfl
theorem tt38 : tt 38 = some { size := 1, agg := false, zero := [.nilFunc], bytes := 8 } := by kernel_rfl
theorem tt39 : tt 39 = some { size := 1, agg := false, zero := [.nilFunc], bytes := 8 } := by kernel_rfl
theorem tt40 : tt 40 = some { size := 1, agg := false, zero := [.int .i64 0], bytes := 8 } := by kernel_rfl
theorem tt41 : tt 41 = some { size := 1, agg := false, zero := [.nilFunc], bytes := 8 } := by kernel_rfl
theorem tt42 : tt 42 = some { size := 1, agg := false, zero := [.nilFunc], bytes := 8 } := by kernel_rfl
theorem tt43 : tt 43 = some { size := 1, agg := false, zero := [.nilFunc], bytes := 8 } := by kernel_rfl
theorem tt44 : tt 44 = some { size := 1, agg := false, zero := [.nilFunc], bytes := 8 } := by kernel_rfl
theorem tt45 : tt 45 = some { size := 1, agg := false, zero := [.nilFunc], bytes := 8 } := by kernel_rfl
theorem tt46 : tt 46 = some { size := 1, agg := false, zero := [.slice none 0 0], elem := some 9, bytes := 24 } := by kernel_rfl
theorem tt47 : tt 47 = some { size := 1, agg := false, zero := [.nilFunc], bytes := 8 } := by kernel_rfl
theorem tt48 : tt 48 = some { size := 1, agg := false, zero := [.nilFunc], bytes := 8 } := by kernel_rfl
theorem tt49 : tt 49 = some { size := 1, agg := false, zero := [.nilFunc], bytes := 8 } := by kernel_rfl
theorem tt50 : tt 50 = some { size := 1, agg := false, zero := [.nilFunc], bytes := 8 } := by kernel_rfl
theorem tt51 : tt 51 = some { size := 1, agg := false, zero := [.nilFunc], bytes := 8 } := by kernel_rfl
theorem tt52 : tt 52 = some { size := 1, agg := false, zero := [.nilFunc], bytes := 8 } := by kernel_rfl
theorem tt53 : tt 53 = some { size := 1, agg := false, zero := [.nilFunc], bytes := 8 } := by kernel_rfl
theorem tt55 : tt 55 = some { size := 1, agg := false, zero := [.nilFunc], bytes := 8 } := by kernel_rfl
theorem tt56 : tt 56 = some { size := 1, agg := false, zero := [.nilFunc], bytes := 8 } := by kernel_rfl
theorem tt57 : tt 57 = some { size := 1, agg := false, zero := [.nilFunc], bytes := 8 } := by kernel_rfl
theorem tt58 : tt 58 = some { size := 1, agg := false, zero := [.nilFunc], bytes := 8 } := by kernel_rfl
theorem tt59 : tt 59 = some { size := 1, agg := false, zero := [.slice none 0 0], elem := some 65, bytes := 24 } := by kernel_rfl
theorem tt60 : tt 60 = some { size := 1, agg := false, zero := [.nilFunc], bytes := 8 } := by kernel_rfl
theorem tt61 : tt 61 = some { size := 1, agg := false, zero := [.nilFunc], bytes := 8 } := by kernel_rfl
theorem tt62 : tt 62 = some { size := 1, agg := false, zero := [.nilFunc], bytes := 8 } := by kernel_rfl
theorem tt63 : tt 63 = some { size := 1, agg := false, zero := [.nilFunc], bytes := 8 } := by kernel_rfl
theorem tt64 : tt 64 = some { size := 2, agg := true, zero := [.string ⟨#[]⟩, .string ⟨#[]⟩], flds := [(0, 1), (1, 1)], bytes := 32 } := by kernel_rfl
theorem tt65 : tt 65 = some { size := 2, agg := true, zero := [.string ⟨#[]⟩, .string ⟨#[]⟩], flds := [(0, 1), (1, 1)], bytes := 32 } := by kernel_rfl
theorem tt66 : tt 66 = some { size := 1, agg := false, zero := [.nilFunc], bytes := 8 } := by kernel_rfl
theorem tt67 : tt 67 = some { size := 1, agg := false, zero := [.nilFunc], bytes := 8 } := by kernel_rfl
theorem tt68 : tt 68 = some { size := 1, agg := false, zero := [.nilFunc], bytes := 8 } := by kernel_rfl
theorem tt69 : tt 69 = some { size := 1, agg := false, zero := [.nilFunc], bytes := 8 } := by kernel_rfl
theorem tt70 : tt 70 = some { size := 1, agg := false, zero := [.nilFunc], bytes := 8 } := by kernel_rfl
theorem tt71 : tt 71 = some { size := 1, agg := false, zero := [.nilFunc], bytes := 8 } := by kernel_rfl
theorem tt72 : tt 72 = some { size := 1, agg := false, zero := [.nilFunc], bytes := 8 } := by kernel_rfl
theorem tt73 : tt 73 = some { size := 1, agg := false, zero := [.slice none 0 0], elem := some 77, bytes := 24 } := by kernel_rfl
theorem tt74 : tt 74 = some { size := 31, agg := true, zero := [.int .i64 0, .string ⟨#[]⟩, .bool false, .bool false, .string ⟨#[]⟩, .slice none 0 0, .int .i64 0, .string ⟨#[]⟩, .string ⟨#[]⟩, .slice none 0 0, .slice none 0 0, .int .i64 0, .string ⟨#[]⟩, .string ⟨#[]⟩, .slice none 0 0, .slice none 0 0, .int .i64 0, .string ⟨#[]⟩, .string ⟨#[]⟩, .slice none 0 0, .slice none 0 0, .int .i64 0, .string ⟨#[]⟩, .string ⟨#[]⟩, .string ⟨#[]⟩, .int .i64 0, .slice none 0 0, .slice none 0 0, .slice none 0 0, .string ⟨#[]⟩, .string ⟨#[]⟩], flds := [(0, 1), (1, 1), (2, 1), (3, 1), (4, 1), (5, 1), (6, 5), (11, 5), (16, 5), (21, 8), (29, 1), (30, 1)], bytes := 504 } := by kernel_rfl
theorem tt75 : tt 75 = some { size := 31, agg := true, zero := [.int .i64 0, .string ⟨#[]⟩, .bool false, .bool false, .string ⟨#[]⟩, .slice none 0 0, .int .i64 0, .string ⟨#[]⟩, .string ⟨#[]⟩, .slice none 0 0, .slice none 0 0, .int .i64 0, .string ⟨#[]⟩, .string ⟨#[]⟩, .slice none 0 0, .slice none 0 0, .int .i64 0, .string ⟨#[]⟩, .string ⟨#[]⟩, .slice none 0 0, .slice none 0 0, .int .i64 0, .string ⟨#[]⟩, .string ⟨#[]⟩, .string ⟨#[]⟩, .int .i64 0, .slice none 0 0, .slice none 0 0, .slice none 0 0, .string ⟨#[]⟩, .string ⟨#[]⟩], flds := [(0, 1), (1, 1), (2, 1), (3, 1), (4, 1), (5, 1), (6, 5), (11, 5), (16, 5), (21, 8), (29, 1), (30, 1)], bytes := 504 } := by kernel_rfl
theorem tt76 : tt 76 = some { size := 7, agg := true, zero := [.string ⟨#[]⟩, .int .i64 0, .int .i64 0, .string ⟨#[]⟩, .string ⟨#[]⟩, .slice none 0 0, .slice none 0 0], flds := [(0, 1), (1, 1), (2, 5)], bytes := 112 } := by kernel_rfl
theorem tt77 : tt 77 = some { size := 7, agg := true, zero := [.string ⟨#[]⟩, .int .i64 0, .int .i64 0, .string ⟨#[]⟩, .string ⟨#[]⟩, .slice none 0 0, .slice none 0 0], flds := [(0, 1), (1, 1), (2, 5)], bytes := 112 } := by kernel_rfl
theorem tt78 : tt 78 = some { size := 1, agg := false, zero := [.nilFunc], bytes := 8 } := by kernel_rfl
theorem tt79 : tt 79 = some { size := 1, agg := false, zero := [.nilFunc], bytes := 8 } := by kernel_rfl
theorem tt80 : tt 80 = some { size := 1, agg := false, zero := [.nilFunc], bytes := 8 } := by kernel_rfl
theorem tt81 : tt 81 = some { size := 1, agg := false, zero := [.nilFunc], bytes := 8 } := by kernel_rfl
theorem tt82 : tt 82 = some { size := 1, agg := false, zero := [.nilFunc], bytes := 8 } := by kernel_rfl
theorem tt83 : tt 83 = some { size := 1, agg := false, zero := [.nilFunc], bytes := 8 } := by kernel_rfl
theorem tt84 : tt 84 = some { size := 1, agg := false, zero := [.nilFunc], bytes := 8 } := by kernel_rfl
theorem tt85 : tt 85 = some { size := 7, agg := true, zero := [.string ⟨#[]⟩, .int .i64 0, .string ⟨#[]⟩, .string ⟨#[]⟩, .slice none 0 0, .slice none 0 0, .bool false], flds := [(0, 1), (1, 5), (6, 1)], bytes := 112 } := by kernel_rfl
theorem tt86 : tt 86 = some { size := 7, agg := true, zero := [.string ⟨#[]⟩, .int .i64 0, .string ⟨#[]⟩, .string ⟨#[]⟩, .slice none 0 0, .slice none 0 0, .bool false], flds := [(0, 1), (1, 5), (6, 1)], bytes := 112 } := by kernel_rfl
theorem tt87 : tt 87 = some { size := 1, agg := false, zero := [.map none], bytes := 8 } := by kernel_rfl
theorem tt88 : tt 88 = some { size := 1, agg := false, zero := [.nilFunc], bytes := 8 } := by kernel_rfl
theorem tt89 : tt 89 = some { size := 1, agg := false, zero := [.nilFunc], bytes := 8 } := by kernel_rfl
theorem tt90 : tt 90 = some { size := 1, agg := false, zero := [.nilFunc], bytes := 8 } := by kernel_rfl
theorem tt91 : tt 91 = some { size := 1, agg := false, zero := [.nilFunc], bytes := 8 } := by kernel_rfl
theorem tt92 : tt 92 = some { size := 1, agg := false, zero := [.nilFunc], bytes := 8 } := by kernel_rfl
theorem tt93 : tt 93 = some { size := 1, agg := false, zero := [.nilFunc], bytes := 8 } := by kernel_rfl
theorem tt94 : tt 94 = some { size := 1, agg := false, zero := [.nilFunc], bytes := 8 } := by kernel_rfl
theorem tt95 : tt 95 = some { size := 1, agg := false, zero := [.nilFunc], bytes := 8 } := by kernel_rfl
theorem tt96 : tt 96 = some { size := 1, agg := false, zero := [.map none], bytes := 8 } := by kernel_rfl
theorem tt97 : tt 97 = some { size := 1, agg := false, zero := [.nilFunc], bytes := 8 } := by kernel_rfl
theorem tt98 : tt 98 = some { size := 1, agg := false, zero := [.nilFunc], bytes := 8 } := by kernel_rfl
theorem tt99 : tt 99 = some { size := 1, agg := false, zero := [.nilFunc], bytes := 8 } := by kernel_rfl
theorem tt100 : tt 100 = some { size := 1, agg := false, zero := [.nilFunc], bytes := 8 } := by kernel_rfl
theorem tt101 : tt 101 = some { size := 1, agg := false, zero := [.nilFunc], bytes := 8 } := by kernel_rfl
theorem tt102 : tt 102 = some { size := 1, agg := false, zero := [.nilFunc], bytes := 8 } := by kernel_rfl
theorem tt103 : tt 103 = some { size := 1, agg := false, zero := [.nilFunc], bytes := 8 } := by kernel_rfl
theorem tt104 : tt 104 = some { size := 8, agg := true, zero := [.string ⟨#[]⟩, .string ⟨#[]⟩, .int .i64 0, .string ⟨#[]⟩, .string ⟨#[]⟩, .slice none 0 0, .slice none 0 0, .bool false], flds := [(0, 1), (1, 1), (2, 5), (7, 1)], bytes := 128 } := by kernel_rfl
theorem tt105 : tt 105 = some { size := 8, agg := true, zero := [.string ⟨#[]⟩, .string ⟨#[]⟩, .int .i64 0, .string ⟨#[]⟩, .string ⟨#[]⟩, .slice none 0 0, .slice none 0 0, .bool false], flds := [(0, 1), (1, 1), (2, 5), (7, 1)], bytes := 128 } := by kernel_rfl
theorem tt106 : tt 106 = some { size := 1, agg := false, zero := [.nilFunc], bytes := 8 } := by kernel_rfl
theorem tt107 : tt 107 = some { size := 1, agg := false, zero := [.nilFunc], bytes := 8 } := by kernel_rfl
theorem tt108 : tt 108 = some { size := 2, agg := true, zero := [.string ⟨#[]⟩, .string ⟨#[]⟩], flds := [(0, 1), (1, 1)], bytes := 32 } := by kernel_rfl
theorem tt109 : tt 109 = some { size := 2, agg := true, zero := [.string ⟨#[]⟩, .string ⟨#[]⟩], flds := [(0, 1), (1, 1)], bytes := 32 } := by kernel_rfl
theorem tt110 : tt 110 = some { size := 1, agg := false, zero := [.nilFunc], bytes := 8 } := by kernel_rfl
theorem tt111 : tt 111 = some { size := 1, agg := false, zero := [.nilFunc], bytes := 8 } := by kernel_rfl
theorem tt112 : tt 112 = some { size := 1, agg := false, zero := [.nilFunc], bytes := 8 } := by kernel_rfl
theorem tt113 : tt 113 = some { size := 1, agg := false, zero := [.nilFunc], bytes := 8 } := by kernel_rfl
theorem tt114 : tt 114 = some { size := 1, agg := false, zero := [.nilFunc], bytes := 8 } := by kernel_rfl
theorem tt115 : tt 115 = some { size := 1, agg := false, zero := [.map none], bytes := 8 } := by kernel_rfl
theorem tt116 : tt 116 = some { size := 1, agg := false, zero := [.nilFunc], bytes := 8 } := by kernel_rfl
theorem tt117 : tt 117 = some { size := 1, agg := false, zero := [.nilFunc], bytes := 8 } := by kernel_rfl
theorem tt118 : tt 118 = some { size := 1, agg := false, zero := [.nilFunc], bytes := 8 } := by kernel_rfl
theorem tt119 : tt 119 = some { size := 1, agg := false, zero := [.nilFunc], bytes := 8 } := by kernel_rfl
theorem tt120 : tt 120 = some { size := 1, agg := false, zero := [.nilFunc], bytes := 8 } := by kernel_rfl
theorem tt121 : tt 121 = some { size := 1, agg := false, zero := [.nilFunc], bytes := 8 } := by kernel_rfl
theorem tt122 : tt 122 = some { size := 1, agg := false, zero := [.nilFunc], bytes := 8 } := by kernel_rfl
theorem tt123 : tt 123 = some { size := 1, agg := false, zero := [.nilFunc], bytes := 8 } := by kernel_rfl
theorem tt124 : tt 124 = some { size := 1, agg := false, zero := [.nilFunc], bytes := 8 } := by kernel_rfl
theorem tt125 : tt 125 = some { size := 1, agg := false, zero := [.int .u64 0], bytes := 8 } := by kernel_rfl
theorem tt126 : tt 126 = some { size := 1, agg := false, zero := [.nilFunc], bytes := 8 } := by kernel_rfl
theorem tt127 : tt 127 = some { size := 1, agg := false, zero := [.nilFunc], bytes := 8 } := by kernel_rfl
theorem tt128 : tt 128 = some { size := 1, agg := false, zero := [.nilFunc], bytes := 8 } := by kernel_rfl
theorem tt129 : tt 129 = some { size := 1, agg := false, zero := [.nilFunc], bytes := 8 } := by kernel_rfl
theorem tt130 : tt 130 = some { size := 1, agg := false, zero := [.nilFunc], bytes := 8 } := by kernel_rfl
theorem tt209 : tt 209 = some { size := 1, agg := false, zero := [.slice none 0 0], elem := some 5, bytes := 24 } := by kernel_rfl
theorem hcall (f : FuncId) (fn : Func) (body : Code) (hf : Tryz.prog.funcs[f]? = some fn) (hb : fn.body = some body) (xs : Array Value) (w : World) : (callFunc f xs).run Tryz.prog w = .ok (.enter f xs) w := hcall_of (by kernel_rfl) f fn body hf hb xs w
def plans : Plans := planOf [
 (9, 15, 1, [⟨.r, 0, [], []⟩, ⟨.a, 0, [], [0]⟩, pN, ⟨.n, 0, [], [0,1,2]⟩, ⟨.n, 0, [], [0,1,2,3]⟩, ⟨.r, 0, [], [0,1,2,3,4]⟩, ⟨.n, 0, [], [0,1,2,3,4]⟩, ⟨.n, 0, [], [0,1,2,3,4,6]⟩, ⟨.r, 0, [], [0,1,2,3,4]⟩, ⟨.n, 0, [], [0,1,2,3,4,8]⟩, ⟨.n, 0, [], [0,1,2,3,4,5,6,7,8,9]⟩, ⟨.r, 0, [], [0,1,2,3,4]⟩, ⟨.n, 0, [], [0,1,2,3,4,5,6,7,8,9,10,11]⟩, ⟨.n, 0, [], [0,1,2,3,4,5,6,7,8,9,10,11,12]⟩, ⟨.n, 0, [], [0,1,2,3,4,5,6,7,8,9,10,11,12,13]⟩]),
 (11, 24, 4, [⟨.r, 0, [], []⟩, pN, pN, ⟨.n, 0, [], [0,1,2]⟩, ⟨.r, 0, [], []⟩, pN, pN, ⟨.n, 0, [], [0,1,2,3,4,5,6]⟩, ⟨.n, 0, [], [0,1,2,3,4,5,6,7]⟩, ⟨.n, 0, [], [0,1,2,3,4,5,6,7,8]⟩, ⟨.r, 0, [], [0,1,2,3,4,5,6,7,8,9]⟩, ⟨.a, 0, [], [0,1,2,3,4,5,6,7,8,9,10]⟩, ⟨.r, 0, [0], [0,1,2,3,4,5,6,7,8,9]⟩, ⟨.a, 1, [], [0,1,2,3,4,5,6,7,8,9,10,11,12]⟩, ⟨.n, 0, [], [0,1,2,3,4,5,6,7,8,9,10,11,12,13]⟩, ⟨.n, 0, [], [0,1,2,3,4,5,6,7,8,9,10,11,12,13,14]⟩, ⟨.n, 0, [], [0,1,2,3,4,5,6,7,8,9,10,11,12,13,14,15]⟩, ⟨.r, 0, [], [0,1,2,3,4,5,6,7,8,9,10,11,12,13,14,15,16]⟩, ⟨.a, 2, [], [0,1,2,3,4,5,6,7,8,9,10,11,12,13,14,15,16,17]⟩, ⟨.r, 0, [2], [0,1,2,3,4,5,6,7,8,9,10,11,12,13,14,15,16]⟩, ⟨.a, 3, [], [0,1,2,3,4,5,6,7,8,9,10,11,12,13,14,15,16,17,18,19]⟩, ⟨.n, 0, [], [0,1,2,3,4,5,6,7,8,9,10,11,12,13,14,15,16,17,18,19,20]⟩, ⟨.n, 0, [], [0,1,2,3,4,5,6,7,8,9,10,11,12,13,14,15,16,17,18,19,20,21]⟩, ⟨.n, 0, [], [0,1,2,3,4,5,6,7,8,9,10,11,12,13,14,15,16,17,18,19,20,21,22]⟩]),
 (5, 55, 1, [⟨.r, 0, [], []⟩, ⟨.n, 0, [], [0]⟩, ⟨.n, 0, [], [0,1]⟩, ⟨.n, 0, [], [0,1,2]⟩, ⟨.r, 0, [], [0,1,2,3]⟩, ⟨.n, 0, [], [0,1,2,3,4]⟩, ⟨.n, 0, [], [0,1,2,3,4,5]⟩, ⟨.n, 0, [], [0,1,2,3,4,5,6]⟩, ⟨.n, 0, [], [0,1,2,3,4,5,6,7]⟩, ⟨.r, 0, [], [0,1,2,3,4,5,6,7,8]⟩, ⟨.a, 0, [], [0,1,2,3,4,5,6,7,8,9]⟩, ⟨.n, 0, [], [0,1,2,3,4,5,6,7,8]⟩, ⟨.n, 0, [], [0,1,2,3,4,5,6,7,8,9,10,11]⟩, ⟨.n, 0, [], [0,1,2,3,4,5,6,7,8,9,10,11,12]⟩, ⟨.n, 0, [], [0,1,2,3,4,5,6,7,8,9,10,11,12,13]⟩, ⟨.r, 0, [], [0,1,2,3,4,5,6,7,8,9,10,11,12,13,14]⟩, ⟨.n, 0, [], [0,1,2,3,4,5,6,7,8,9,10,11,12,13,14]⟩, ⟨.n, 0, [], [0,1,2,3,4,5,6,7,8,9,10,11,12,13,14,16]⟩, ⟨.n, 0, [], [0,1,2,3,4,5,6,7,8,9,10,11,12,13,14,15,16,17]⟩, ⟨.n, 0, [], [0,1,2,3,4,5,6,7,8,9,10,11,12,13,14,15,16,17,18]⟩, ⟨.n, 0, [], [0,1,2,3,4,5,6,7,8,9,10,11,12,13,14,15,16,17,18,19]⟩, ⟨.r, 0, [], [0,1,2,3,4,5,6,7,8,9,10,11,12,13,14,15,16,17,18,19,20]⟩, ⟨.r, 0, [], [0,1,2,3,4,5,6,7,8,9,10,11,12,13,14,15,16,17,18,19,20]⟩, ⟨.n, 0, [], [0,1,2,3,4,5,6,7,8,9,10,11,12,13,14,15,16,17,18,19,20,21,22]⟩, ⟨.n, 0, [], [0,1,2,3,4,5,6,7,8,9,10,11,12,13,14,15,16,17,18,19,20,21,22,23]⟩, ⟨.n, 0, [], [0,1,2,3,4,5,6,7,8,9,10,11,12,13,14,15,16,17,18,19,20,21,22,23,24]⟩, ⟨.n, 0, [], [0,1,2,3,4,5,6,7,8,9,10,11,12,13,14,15,16,17,18,19,20,21,22,23,24,25]⟩, ⟨.r, 0, [], [0,1,2,3,4,5,6,7,8,9,10,11,12,13,14,15,16,17,18,19,20,21,22,23,24,25,26]⟩, ⟨.n, 0, [], [0,1,2,3,4,5,6,7,8,9,10,11,12,13,14,15,16,17,18,19,20,21,22,23,24,25,26,27]⟩, ⟨.n, 0, [], [0,1,2,3,4,5,6,7,8,9,10,11,12,13,14,15,16,17,18,19,20,21,22,23,24,25,26,27,28]⟩, ⟨.n, 0, [], [0,1,2,3,4,5,6,7,8,9,10,11,12,13,14,15,16,17,18,19,20,21,22,23,24,25,26,27,28,29]⟩, ⟨.n, 0, [], [0,1,2,3,4,5,6,7,8,9,10,11,12,13,14,15,16,17,18,19,20,21,22,23,24,25,26,27,28,29,30]⟩, ⟨.n, 0, [], [0,1,2,3,4,5,6,7,8,9,10,11,12,13,14,15,16,17,18,19,20,21,22,23,24,25,26,27,28,29,30,31]⟩, ⟨.n, 0, [], [0,1,2,3,4,5,6,7,8,9,10,11,12,13,14,15,16,17,18,19,20,21,22,23,24,25,26,27,28,29,30,31,32]⟩, ⟨.n, 0, [], [0,1,2,3,4,5,6,7,8,9,10,11,12,13,14,15,16,17,18,19,20,21,22,23,24,25,26,27,28,29,30,31,32,33]⟩, ⟨.n, 0, [], [0,1,2,3,4,5,6,7,8,9,10,11,12,13,14,15,16,17,18,19,20,21,22,23,24,25,26,27,28,29,30,31,32,33,34]⟩, ⟨.n, 0, [], [0,1,2,3,4,5,6,7,8,9,10,11,12,13,14,15,16,17,18,19,20,21,22,23,24,25,26,27,28,29,30,31,32,33,34,35]⟩, ⟨.n, 0, [], [0,1,2,3,4,5,6,7,8,9,10,11,12,13,14,15,16,17,18,19,20,21,22,23,24,25,26,27,28,29,30,31,32,33,34,35,36]⟩, ⟨.n, 0, [], [0,1,2,3,4,5,6,7,8,9,10,11,12,13,14,15,16,17,18,19,20,21,22,23,24,25,26,27,28,29,30,31,32,33,34,35,36,37]⟩, ⟨.n, 0, [], [0,1,2,3,4,5,6,7,8,9,10,11,12,13,14,15,16,17,18,19,20,21,22,23,24,25,26,27,28,29,30,31,32,33,34,35,36,37,38]⟩, ⟨.n, 0, [], [0,1,2,3,4,5,6,7,8,9,10,11,12,13,14,15,16,17,18,19,20,21,22,23,24,25,26,27,28,29,30,31,32,33,34,35,36,37,38,39]⟩, ⟨.n, 0, [], [0,1,2,3,4,5,6,7,8,9,10,11,12,13,14,15,16,17,18,19,20,21,22,23,24,25,26,27,28,29,30,31,32,33,34,35,36,37,38,39,40]⟩, ⟨.n, 0, [], [0,1,2,3,4,5,6,7,8,9,10,11,12,13,14,15,16,17,18,19,20,21,22,23,24,25,26,27,28,29,30,31,32,33,34,35,36,37,38,39,40,41]⟩, ⟨.n, 0, [], [0,1,2,3,4,5,6,7,8,9,10,11,12,13,14,15,16,17,18,19,20,21,22,23,24,25,26,27,28,29,30,31,32,33,34,35,36,37,38,39,40,41,42]⟩, ⟨.n, 0, [], [0,1,2,3,4,5,6,7,8,9,10,11,12,13,14,15,16,17,18,19,20,21,22,23,24,25,26,27,28,29,30,31,32,33,34,35,36,37,38,39,40,41,42,43]⟩, ⟨.n, 0, [], [0,1,2,3,4,5,6,7,8,9,10,11,12,13,14,15,16,17,18,19,20,21,22,23,24,25,26,27,28,29,30,31,32,33,34,35,36,37,38,39,40,41,42,43,44]⟩, ⟨.n, 0, [], [0,1,2,3,4,5,6,7,8,9,10,11,12,13,14,15,16,17,18,19,20,21,22,23,24,25,26,27,28,29,30,31,32,33,34,35,36,37,38,39,40,41,42,43,44,45]⟩, ⟨.n, 0, [], [0,1,2,3,4,5,6,7,8,9,10,11,12,13,14,15,16,17,18,19,20,21,22,23,24,25,26,27,28,29,30,31,32,33,34,35,36,37,38,39,40,41,42,43,44,45,46]⟩, ⟨.n, 0, [], [0,1,2,3,4,5,6,7,8,9,10,11,12,13,14,15,16,17,18,19,20,21,22,23,24,25,26,27,28,29,30,31,32,33,34,35,36,37,38,39,40,41,42,43,44,45,46,47]⟩, ⟨.n, 0, [], [0,1,2,3,4,5,6,7,8,9,10,11,12,13,14,15,16,17,18,19,20,21,22,23,24,25,26,27,28,29,30,31,32,33,34,35,36,37,38,39,40,41,42,43,44,45,46,47,48]⟩, ⟨.n, 0, [], [0,1,2,3,4,5,6,7,8,9,10,11,12,13,14,15,16,17,18,19,20,21,22,23,24,25,26,27,28,29,30,31,32,33,34,35,36,37,38,39,40,41,42,43,44,45,46,47,48,49]⟩, ⟨.n, 0, [], [0,1,2,3,4,5,6,7,8,9,10,11,12,13,14,15,16,17,18,19,20,21,22,23,24,25,26,27,28,29,30,31,32,33,34,35,36,37,38,39,40,41,42,43,44,45,46,47,48,49,50]⟩, ⟨.n, 0, [], [0,1,2,3,4,5,6,7,8,9,10,11,12,13,14,15,16,17,18,19,20,21,22,23,24,25,26,27,28,29,30,31,32,33,34,35,36,37,38,39,40,41,42,43,44,45,46,47,48,49,50,51]⟩, ⟨.n, 0, [], [0,1,2,3,4,5,6,7,8,9,10,11,12,13,14,15,16,17,18,19,20,21,22,23,24,25,26,27,28,29,30,31,32,33,34,35,36,37,38,39,40,41,42,43,44,45,46,47,48,49,50,51,52]⟩, ⟨.n, 0, [], [0,1,2,3,4,5,6,7,8,9,10,11,12,13,14,15,16,17,18,19,20,21,22,23,24,25,26,27,28,29,30,31,32,33,34,35,36,37,38,39,40,41,42,43,44,45,46,47,48,49,50,51,52,53]⟩]),
 (4, 10, 4, [pN, ⟨.r, 0, [], [0]⟩, ⟨.a, 0, [], [0,1]⟩, pN, ⟨.r, 0, [0], [3]⟩, ⟨.a, 1, [], [0,1,2,3,4]⟩, ⟨.n, 0, [], [0,1,2,3,4]⟩, ⟨.w, 2, [], [0,1,2,3,4,5,6]⟩, ⟨.n, 0, [], [0,1,2,3,4,5,6,7]⟩, ⟨.w, 3, [], [0,1,2,3,4,5,6,7,8]⟩]),
 (5, 27, 0, [⟨.r, 0, [], []⟩, pN, ⟨.r, 0, [], []⟩, pN, pN, pN, ⟨.r, 0, [], []⟩, pN, ⟨.r, 0, [], []⟩, pN, pN, pN, pN, ⟨.r, 0, [], []⟩, pN, ⟨.r, 0, [], []⟩, pN, pN, pN, pN, ⟨.r, 0, [], []⟩, pN, ⟨.r, 0, [], []⟩, pN, pN, pN, pN]),
 (11, 10, 0, [⟨.r, 0, [], []⟩, pN, pN, pN, ⟨.r, 0, [], []⟩, pN, ⟨.r, 0, [], []⟩, pN, pN, pN]),
 (20, 10, 0, [⟨.r, 0, [], []⟩, pN, pN, pN, ⟨.r, 0, [], []⟩, pN, ⟨.r, 0, [], []⟩, pN, pN, pN]),
 (5, 13, 1, [⟨.r, 0, [0], []⟩, pN, pN, ⟨.r, 0, [0], []⟩, pN, pN, pN, pN, ⟨.r, 0, [0], []⟩, pN, pN, ⟨.a, 0, [], []⟩, ⟨.s, 0, [], []⟩]),
 (6, 15, 1, [⟨.r, 0, [0], []⟩, pN, pN, pN, ⟨.r, 0, [0], []⟩, pN, pN, ⟨.r, 0, [0], []⟩, pN, pN, ⟨.r, 0, [0], []⟩, pN, pN, ⟨.a, 0, [], []⟩, ⟨.s, 0, [], []⟩]),
 (9, 15, 0, [⟨.r, 0, [], []⟩, pN, pN, pN, pN, ⟨.r, 0, [], []⟩, pN, pN, ⟨.r, 0, [], []⟩, pN, pN, ⟨.r, 0, [], []⟩, pN, pN, pN]),
 (3, 21, 0, [⟨.r, 0, [], []⟩, ⟨.r, 0, [], []⟩, pN, pN, pN, pN, ⟨.r, 0, [], []⟩, pN, ⟨.r, 0, [], []⟩, pN, pN, pN, pN, pN, ⟨.r, 0, [], []⟩, pN, ⟨.r, 0, [], []⟩, pN, pN, pN, pN]),
 (5, 26, 0, [⟨.r, 0, [], []⟩, ⟨.r, 0, [], []⟩, pN, ⟨.r, 0, [], []⟩, ⟨.r, 0, [], []⟩, pN, pN, pN, ⟨.r, 0, [], []⟩, ⟨.r, 0, [], []⟩, pN, ⟨.r, 0, [], []⟩, ⟨.r, 0, [], []⟩, pN, pN, pN, pN, ⟨.r, 0, [], []⟩, ⟨.r, 0, [], []⟩, pN, ⟨.r, 0, [], []⟩, ⟨.r, 0, [], []⟩, pN, pN, pN, pN]),
 (7, 12, 0, [⟨.r, 0, [], []⟩, ⟨.r, 0, [], []⟩, pN, ⟨.r, 0, [], []⟩, ⟨.r, 0, [], []⟩, pN, ⟨.r, 0, [], []⟩, ⟨.r, 0, [], []⟩, pN, pN, pN, pN]),
 (12, 56, 0, [pN, pN, pN, ⟨.r, 0, [], []⟩, pN, ⟨.r, 0, [], []⟩, pN, pN, pN, ⟨.r, 0, [], []⟩, pN, ⟨.r, 0, [], []⟩, pN, pN, pN, pN, pN, pN, pN, pN, ⟨.r, 0, [], []⟩, pN, ⟨.r, 0, [], []⟩, pN, pN, pN, ⟨.r, 0, [], []⟩, pN, ⟨.r, 0, [], []⟩, pN, pN, pN, pN, pN, pN, pN, pN, pN, ⟨.r, 0, [], []⟩, pN, ⟨.r, 0, [], []⟩, pN, pN, pN, pN, pN, pN, pN, pN, pN, pN, pN, pN, pN, pN, pN]),
 (11, 24, 0, [⟨.r, 0, [], []⟩, pN, pN, pN, ⟨.r, 0, [], []⟩, pN, pN, pN, pN, pN, ⟨.r, 0, [], []⟩, pN, ⟨.r, 0, [], []⟩, pN, pN, pN, pN, ⟨.r, 0, [], []⟩, pN, ⟨.r, 0, [], []⟩, pN, pN, pN, pN]),
 (5, 55, 0, [⟨.r, 0, [], []⟩, pN, pN, pN, ⟨.r, 0, [], []⟩, pN, pN, pN, pN, ⟨.r, 0, [], []⟩, pN, pN, pN, pN, pN, ⟨.r, 0, [], []⟩, pN, pN, pN, pN, pN, ⟨.r, 0, [], []⟩, ⟨.r, 0, [], []⟩, pN, pN, pN, pN, ⟨.r, 0, [], []⟩, pN, pN, pN, pN, pN, pN, pN, pN, pN, pN, pN, pN, pN, pN, pN, pN, pN, pN, pN, pN, pN, pN, pN, pN, pN, pN, pN]),
 (12, 10, 0, [pN, pN, ⟨.r, 0, [], []⟩, pN, pN, pN, ⟨.r, 0, [], []⟩, pN, pN, pN]),
 (16, 10, 0, [pN, pN, ⟨.r, 0, [], []⟩, pN, pN, pN, ⟨.r, 0, [], []⟩, pN, pN, pN]),
 (8, 5, 1, [⟨.r, 0, [], []⟩, ⟨.r, 0, [], []⟩, pN, pN, ⟨.w, 0, [], []⟩]),
 (10, 10, 0, [pN, pN, ⟨.r, 0, [], []⟩, pN, pN, ⟨.r, 0, [], []⟩, pN, pN, pN, pN]),
 (12, 10, 0, [pN, pN, ⟨.r, 0, [], []⟩, pN, pN, ⟨.r, 0, [], []⟩, pN, pN, pN, pN]),
 (4, 10, 2, [pN, ⟨.r, 0, [], []⟩, pN, pN, ⟨.r, 0, [], []⟩, pN, pN, ⟨.w, 0, [], []⟩, pN, ⟨.w, 1, [], []⟩]),
 (8, 9, 1, [pN, ⟨.r, 0, [], []⟩, pN, ⟨.r, 0, [], []⟩, pN, pN, pN, ⟨.r, 0, [], []⟩, ⟨.w, 0, [], []⟩]),
 (13, 11, 1, [pN, ⟨.r, 0, [], [0]⟩, pN, pN, ⟨.r, 0, [], [3]⟩, pN, pN, ⟨.n, 0, [], [3,4,5,6]⟩, ⟨.r, 0, [], [0,1,2,3,4,5,6,7]⟩, ⟨.n, 0, [], [0,1,2,3,4,5,6,7,8]⟩, ⟨.w, 0, [], [0,1,2,3,4,5,6,7,8,9]⟩]),
 (6, 44, 0, [pN, ⟨.r, 0, [], []⟩, pN, ⟨.r, 0, [], []⟩, pN, ⟨.r, 0, [], []⟩, pN, ⟨.r, 0, [], []⟩, pN, ⟨.r, 0, [], []⟩, pN, ⟨.r, 0, [], []⟩, pN, pN, pN, ⟨.r, 0, [], []⟩, pN, ⟨.r, 0, [], []⟩, pN, ⟨.r, 0, [], []⟩, pN, ⟨.r, 0, [], []⟩, pN, ⟨.r, 0, [], []⟩, pN, ⟨.r, 0, [], []⟩, pN, pN, pN, pN, ⟨.r, 0, [], []⟩, pN, ⟨.r, 0, [], []⟩, pN, ⟨.r, 0, [], []⟩, pN, ⟨.r, 0, [], []⟩, pN, ⟨.r, 0, [], []⟩, pN, ⟨.r, 0, [], []⟩, pN, pN, pN]),
 (6, 14, 2, [pN, ⟨.r, 0, [0,1], []⟩, pN, ⟨.r, 0, [0,1], []⟩, ⟨.r, 0, [0,1], []⟩, pN, ⟨.r, 0, [0,1], []⟩, pN, ⟨.r, 0, [0,1], []⟩, ⟨.r, 0, [0,1], []⟩, ⟨.a, 0, [], []⟩, ⟨.a, 1, [], []⟩, ⟨.s, 0, [], []⟩, ⟨.s, 1, [], []⟩]),
 (12, 12, 0, [pN, ⟨.r, 0, [], []⟩, pN, ⟨.r, 0, [], []⟩, ⟨.r, 0, [], []⟩, pN, ⟨.r, 0, [], []⟩, pN, ⟨.r, 0, [], []⟩, ⟨.r, 0, [], []⟩, pN, pN]),
 (6, 11, 0, [pN, ⟨.r, 0, [], []⟩, pN, ⟨.r, 0, [], []⟩, ⟨.r, 0, [], []⟩, pN, ⟨.r, 0, [], []⟩, pN, ⟨.r, 0, [], []⟩, ⟨.r, 0, [], []⟩, pN]),
 (11, 12, 0, [pN, ⟨.r, 0, [], []⟩, pN, ⟨.r, 0, [], []⟩, ⟨.r, 0, [], []⟩, pN, ⟨.r, 0, [], []⟩, pN, ⟨.r, 0, [], []⟩, ⟨.r, 0, [], []⟩, pN, pN]),
 (7, 7, 0, [⟨.r, 0, [], []⟩, pN, ⟨.r, 0, [], []⟩, pN, ⟨.r, 0, [], []⟩, pN, pN]),
 (5, 7, 0, [pN, pN, ⟨.r, 0, [], []⟩, ⟨.r, 0, [], []⟩, pN, ⟨.r, 0, [], []⟩, pN]),
 (11, 14, 2, [pN, ⟨.r, 0, [], [0]⟩, pN, ⟨.r, 0, [], [2]⟩, pN, ⟨.r, 0, [], [2,3,4]⟩, ⟨.r, 0, [], [2,3,4,5]⟩, pN, pN, ⟨.n, 0, [], [2,3,4,5,6,7,8]⟩, ⟨.n, 0, [], [2,3,4,5,6,7,8,9]⟩, ⟨.w, 0, [], [0,1,2,3,4,5,6,7,8,9,10]⟩, ⟨.n, 0, [], [0,1,2,3,4,5,6,7,8,9,10,11]⟩, ⟨.w, 1, [], [0,1,2,3,4,5,6,7,8,9,10,11,12]⟩]),
 (6, 9, 0, [pN, pN, ⟨.r, 0, [], []⟩, ⟨.r, 0, [], []⟩, pN, pN, ⟨.r, 0, [], []⟩, ⟨.r, 0, [], []⟩, pN]),
 (6, 10, 0, [pN, pN, ⟨.r, 0, [], []⟩, ⟨.r, 0, [], []⟩, pN, pN, pN, ⟨.r, 0, [], []⟩, ⟨.r, 0, [], []⟩, pN]),
 (11, 10, 0, [pN, pN, ⟨.r, 0, [], []⟩, ⟨.r, 0, [], []⟩, pN, pN, pN, ⟨.r, 0, [], []⟩, ⟨.r, 0, [], []⟩, pN]),
 (6, 10, 0, [pN, pN, ⟨.r, 0, [], []⟩, ⟨.r, 0, [], []⟩, pN, pN, ⟨.r, 0, [], []⟩, ⟨.r, 0, [], []⟩, pN, pN]),
 (6, 13, 4, [⟨.a, 0, [], []⟩, pN, pN, ⟨.r, 0, [0], [1,2]⟩, ⟨.w, 1, [], [0,1,2,3]⟩, pN, ⟨.n, 0, [], [5]⟩, ⟨.w, 2, [], [0,1,2,3,4,5,6]⟩, pN, pN, ⟨.n, 0, [], [8,9]⟩, ⟨.w, 3, [], [0,1,2,3,4,5,6,7,8,9,10]⟩, ⟨.n, 0, [], [0,1,2,3,4,5,6,7,8,9,10,11]⟩]),
 (1, 13, 0, [pN, ⟨.r, 0, [], []⟩, pN, ⟨.r, 0, [], []⟩, pN, pN, ⟨.r, 0, [], []⟩, pN, ⟨.r, 0, [], []⟩, pN, pN, pN, pN]),
 (2, 12, 0, [pN, pN, pN, pN, pN, pN, pN, ⟨.r, 0, [], []⟩, ⟨.r, 0, [], []⟩, ⟨.r, 0, [], []⟩, pN, pN]),
 (4, 12, 0, [pN, pN, pN, pN, pN, pN, pN, ⟨.r, 0, [], []⟩, ⟨.r, 0, [], []⟩, ⟨.r, 0, [], []⟩, pN, pN]),
 (17, 15, 0, [pN, pN, pN, pN, pN, pN, ⟨.r, 0, [], []⟩, ⟨.r, 0, [], []⟩, pN, pN, ⟨.r, 0, [], []⟩, ⟨.r, 0, [], []⟩, pN, pN, pN]),
 (17, 17, 0, [pN, pN, pN, pN, pN, pN, pN, ⟨.r, 0, [], []⟩, ⟨.r, 0, [], []⟩, pN, pN, ⟨.r, 0, [], []⟩, ⟨.r, 0, [], []⟩, pN, pN, pN, pN]),
 (1, 16, 0, [pN, ⟨.r, 0, [], []⟩, pN, pN, ⟨.r, 0, [], []⟩, pN, pN, ⟨.r, 0, [], []⟩, pN, pN, ⟨.r, 0, [], []⟩, pN, pN, pN, pN, pN]),
 (4, 15, 0, [pN, pN, pN, pN, ⟨.r, 0, [], []⟩, ⟨.r, 0, [], []⟩, pN, pN, pN, pN, ⟨.r, 0, [], []⟩, ⟨.r, 0, [], []⟩, pN, pN, pN]),
 (6, 38, 0, [pN, pN, ⟨.r, 0, [], []⟩, pN, ⟨.r, 0, [], []⟩, pN, pN, ⟨.r, 0, [], []⟩, pN, ⟨.r, 0, [], []⟩, pN, pN, pN, pN, ⟨.r, 0, [], []⟩, pN, ⟨.r, 0, [], []⟩, pN, pN, ⟨.r, 0, [], []⟩, pN, ⟨.r, 0, [], []⟩, pN, pN, pN, pN, pN, ⟨.r, 0, [], []⟩, pN, ⟨.r, 0, [], []⟩, pN, pN, ⟨.r, 0, [], []⟩, pN, ⟨.r, 0, [], []⟩, pN, pN, pN]),
 (27, 15, 0, [pN, ⟨.r, 0, [], []⟩, pN, pN, ⟨.r, 0, [], []⟩, pN, ⟨.r, 0, [], []⟩, pN, ⟨.r, 0, [], []⟩, pN, ⟨.r, 0, [], []⟩, pN, ⟨.r, 0, [], []⟩, pN, pN]),
 (4, 15, 0, [pN, pN, pN, pN, pN, pN, ⟨.r, 0, [], []⟩, ⟨.r, 0, [], []⟩, pN, pN, pN, ⟨.r, 0, [], []⟩, ⟨.r, 0, [], []⟩, pN, pN]),
 (6, 18, 2, [pN, pN, pN, pN, ⟨.n, 0, [], [3]⟩, pN, pN, ⟨.n, 0, [], [6]⟩, ⟨.r, 0, [], [5,6,7]⟩, ⟨.r, 0, [], [5,6,7,8]⟩, pN, pN, ⟨.r, 0, [], [10,11]⟩, ⟨.r, 0, [], [10,11,12]⟩, ⟨.r, 0, [], [0,1,5,6,7,8,9,10,11,12,13]⟩, ⟨.w, 0, [], [0,1,5,6,7,8,9,10,11,12,13,14]⟩, ⟨.r, 0, [], [0,1,2,3,4,5,6,7,8,9,10,11,12,13,14,15]⟩, ⟨.w, 1, [], [0,1,2,3,4,5,6,7,8,9,10,11,12,13,14,15,16]⟩]),
 (10, 20, 2, [pN, pN, pN, pN, pN, ⟨.n, 0, [], [3,4]⟩, pN, pN, pN, ⟨.n, 0, [], [7,8]⟩, ⟨.r, 0, [], [6,7,8,9]⟩, ⟨.r, 0, [], [6,7,8,9,10]⟩, pN, pN, ⟨.r, 0, [], [12,13]⟩, ⟨.r, 0, [], [12,13,14]⟩, ⟨.r, 0, [], [0,1,6,7,8,9,10,11,12,13,14,15]⟩, ⟨.w, 0, [], [0,1,6,7,8,9,10,11,12,13,14,15,16]⟩, ⟨.r, 0, [], [0,1,2,3,4,5,6,7,8,9,10,11,12,13,14,15,16,17]⟩, ⟨.w, 1, [], [0,1,2,3,4,5,6,7,8,9,10,11,12,13,14,15,16,17,18]⟩]),
 (3, 16, 2, [pN, pN, pN, pN, pN, pN, ⟨.r, 0, [], [4,5]⟩, ⟨.r, 0, [], [4,5,6]⟩, pN, pN, ⟨.r, 0, [], [8,9]⟩, ⟨.r, 0, [], [8,9,10]⟩, ⟨.r, 0, [], [0,1,4,5,6,7,8,9,10,11]⟩, ⟨.w, 0, [], [0,1,4,5,6,7,8,9,10,11,12]⟩, ⟨.r, 0, [], [0,1,2,3,4,5,6,7,8,9,10,11,12,13]⟩, ⟨.w, 1, [], [0,1,2,3,4,5,6,7,8,9,10,11,12,13,14]⟩]),
 (5, 16, 0, [pN, pN, pN, pN, pN, pN, ⟨.r, 0, [], []⟩, ⟨.r, 0, [], []⟩, pN, pN, pN, ⟨.r, 0, [], []⟩, ⟨.r, 0, [], []⟩, pN, pN, pN]),
 (11, 18, 2, [pN, pN, pN, pN, ⟨.n, 0, [], [3]⟩, pN, pN, ⟨.n, 0, [], [6]⟩, ⟨.r, 0, [], [5,6,7]⟩, ⟨.r, 0, [], [5,6,7,8]⟩, pN, pN, ⟨.r, 0, [], [10,11]⟩, ⟨.r, 0, [], [10,11,12]⟩, ⟨.r, 0, [], [0,1,5,6,7,8,9,10,11,12,13]⟩, ⟨.w, 0, [], [0,1,5,6,7,8,9,10,11,12,13,14]⟩, ⟨.r, 0, [], [0,1,2,3,4,5,6,7,8,9,10,11,12,13,14,15]⟩, ⟨.w, 1, [], [0,1,2,3,4,5,6,7,8,9,10,11,12,13,14,15,16]⟩]),
 (16, 11, 0, [pN, pN, ⟨.r, 0, [], []⟩, ⟨.r, 0, [], []⟩, pN, pN, pN, ⟨.r, 0, [], []⟩, ⟨.r, 0, [], []⟩, pN, pN]),
 (17, 18, 2, [pN, pN, pN, pN, ⟨.n, 0, [], [3]⟩, pN, pN, ⟨.n, 0, [], [6]⟩, ⟨.r, 0, [], [5,6,7]⟩, ⟨.r, 0, [], [5,6,7,8]⟩, pN, pN, ⟨.r, 0, [], [10,11]⟩, ⟨.r, 0, [], [10,11,12]⟩, ⟨.r, 0, [], [0,1,5,6,7,8,9,10,11,12,13]⟩, ⟨.w, 0, [], [0,1,5,6,7,8,9,10,11,12,13,14]⟩, ⟨.r, 0, [], [0,1,2,3,4,5,6,7,8,9,10,11,12,13,14,15]⟩, ⟨.w, 1, [], [0,1,2,3,4,5,6,7,8,9,10,11,12,13,14,15,16]⟩]),
 (22, 11, 0, [pN, pN, ⟨.r, 0, [], []⟩, ⟨.r, 0, [], []⟩, pN, pN, pN, ⟨.r, 0, [], []⟩, ⟨.r, 0, [], []⟩, pN, pN]),
 (23, 18, 2, [pN, pN, pN, pN, ⟨.n, 0, [], [3]⟩, pN, pN, ⟨.n, 0, [], [6]⟩, ⟨.r, 0, [], [5,6,7]⟩, ⟨.r, 0, [], [5,6,7,8]⟩, pN, pN, ⟨.r, 0, [], [10,11]⟩, ⟨.r, 0, [], [10,11,12]⟩, ⟨.r, 0, [], [0,1,5,6,7,8,9,10,11,12,13]⟩, ⟨.w, 0, [], [0,1,5,6,7,8,9,10,11,12,13,14]⟩, ⟨.r, 0, [], [0,1,2,3,4,5,6,7,8,9,10,11,12,13,14,15]⟩, ⟨.w, 1, [], [0,1,2,3,4,5,6,7,8,9,10,11,12,13,14,15,16]⟩]),
 (1, 16, 2, [pN, pN, pN, pN, pN, pN, ⟨.r, 0, [], [4,5]⟩, ⟨.r, 0, [], [4,5,6]⟩, pN, pN, ⟨.r, 0, [], [8,9]⟩, ⟨.r, 0, [], [8,9,10]⟩, ⟨.r, 0, [], [0,1,4,5,6,7,8,9,10,11]⟩, ⟨.w, 0, [], [0,1,4,5,6,7,8,9,10,11,12]⟩, ⟨.r, 0, [], [0,1,2,3,4,5,6,7,8,9,10,11,12,13]⟩, ⟨.w, 1, [], [0,1,2,3,4,5,6,7,8,9,10,11,12,13,14]⟩]),
 (3, 15, 0, [pN, pN, pN, pN, pN, pN, ⟨.r, 0, [], []⟩, ⟨.r, 0, [], []⟩, pN, pN, ⟨.r, 0, [], []⟩, ⟨.r, 0, [], []⟩, pN, pN, pN]),
 (5, 14, 0, [pN, pN, pN, pN, pN, pN, ⟨.r, 0, [], []⟩, ⟨.r, 0, [], []⟩, pN, pN, ⟨.r, 0, [], []⟩, ⟨.r, 0, [], []⟩, pN, pN]),
 (8, 16, 2, [pN, pN, pN, pN, pN, pN, ⟨.r, 0, [], [4,5]⟩, ⟨.r, 0, [], [4,5,6]⟩, pN, pN, ⟨.r, 0, [], [8,9]⟩, ⟨.r, 0, [], [8,9,10]⟩, ⟨.r, 0, [], [0,1,4,5,6,7,8,9,10,11]⟩, ⟨.w, 0, [], [0,1,4,5,6,7,8,9,10,11,12]⟩, ⟨.r, 0, [], [0,1,2,3,4,5,6,7,8,9,10,11,12,13]⟩, ⟨.w, 1, [], [0,1,2,3,4,5,6,7,8,9,10,11,12,13,14]⟩]),
 (3, 14, 0, [pN, pN, pN, pN, pN, pN, ⟨.r, 0, [], []⟩, ⟨.r, 0, [], []⟩, pN, pN, ⟨.r, 0, [], []⟩, ⟨.r, 0, [], []⟩, pN, pN]),
 (5, 15, 0, [pN, pN, pN, pN, pN, pN, ⟨.r, 0, [], []⟩, ⟨.r, 0, [], []⟩, pN, pN, ⟨.r, 0, [], []⟩, ⟨.r, 0, [], []⟩, pN, pN, pN]),
 (10, 16, 2, [pN, pN, pN, pN, pN, pN, ⟨.r, 0, [], [4,5]⟩, ⟨.r, 0, [], [4,5,6]⟩, pN, pN, ⟨.r, 0, [], [8,9]⟩, ⟨.r, 0, [], [8,9,10]⟩, ⟨.r, 0, [], [0,1,4,5,6,7,8,9,10,11]⟩, ⟨.w, 0, [], [0,1,4,5,6,7,8,9,10,11,12]⟩, ⟨.r, 0, [], [0,1,2,3,4,5,6,7,8,9,10,11,12,13]⟩, ⟨.w, 1, [], [0,1,2,3,4,5,6,7,8,9,10,11,12,13,14]⟩]),
 (13, 14, 0, [pN, pN, pN, pN, pN, pN, ⟨.r, 0, [], []⟩, ⟨.r, 0, [], []⟩, pN, pN, ⟨.r, 0, [], []⟩, ⟨.r, 0, [], []⟩, pN, pN]),
 (15, 15, 0, [pN, pN, pN, pN, pN, pN, ⟨.r, 0, [], []⟩, ⟨.r, 0, [], []⟩, pN, pN, ⟨.r, 0, [], []⟩, ⟨.r, 0, [], []⟩, pN, pN, pN]),
 (18, 16, 2, [pN, pN, pN, pN, pN, pN, ⟨.r, 0, [], [4,5]⟩, ⟨.r, 0, [], [4,5,6]⟩, pN, pN, ⟨.r, 0, [], [8,9]⟩, ⟨.r, 0, [], [8,9,10]⟩, ⟨.r, 0, [], [0,1,4,5,6,7,8,9,10,11]⟩, ⟨.w, 0, [], [0,1,4,5,6,7,8,9,10,11,12]⟩, ⟨.r, 0, [], [0,1,2,3,4,5,6,7,8,9,10,11,12,13]⟩, ⟨.w, 1, [], [0,1,2,3,4,5,6,7,8,9,10,11,12,13,14]⟩]),
 (21, 16, 2, [pN, pN, pN, pN, pN, pN, ⟨.r, 0, [], [4,5]⟩, ⟨.r, 0, [], [4,5,6]⟩, pN, pN, ⟨.r, 0, [], [8,9]⟩, ⟨.r, 0, [], [8,9,10]⟩, ⟨.r, 0, [], [0,1,4,5,6,7,8,9,10,11]⟩, ⟨.w, 0, [], [0,1,4,5,6,7,8,9,10,11,12]⟩, ⟨.r, 0, [], [0,1,2,3,4,5,6,7,8,9,10,11,12,13]⟩, ⟨.w, 1, [], [0,1,2,3,4,5,6,7,8,9,10,11,12,13,14]⟩]),
 (4, 17, 0, [pN, pN, pN, pN, pN, pN, pN, ⟨.r, 0, [], []⟩, ⟨.r, 0, [], []⟩, pN, pN, pN, ⟨.r, 0, [], []⟩, ⟨.r, 0, [], []⟩, pN, pN, pN]),
 (5, 18, 0, [pN, pN, pN, pN, pN, pN, pN, ⟨.r, 0, [], []⟩, ⟨.r, 0, [], []⟩, pN, pN, pN, ⟨.r, 0, [], []⟩, ⟨.r, 0, [], []⟩, pN, pN, pN, pN]),
 (16, 13, 0, [pN, pN, pN, ⟨.r, 0, [], []⟩, ⟨.r, 0, [], []⟩, pN, pN, pN, ⟨.r, 0, [], []⟩, ⟨.r, 0, [], []⟩, pN, pN, pN]),
 (22, 13, 0, [pN, pN, pN, ⟨.r, 0, [], []⟩, ⟨.r, 0, [], []⟩, pN, pN, pN, ⟨.r, 0, [], []⟩, ⟨.r, 0, [], []⟩, pN, pN, pN]),
 (3, 17, 0, [pN, pN, pN, pN, pN, pN, pN, ⟨.r, 0, [], []⟩, ⟨.r, 0, [], []⟩, pN, pN, ⟨.r, 0, [], []⟩, ⟨.r, 0, [], []⟩, pN, pN, pN, pN]),
 (5, 16, 0, [pN, pN, pN, pN, pN, pN, pN, ⟨.r, 0, [], []⟩, ⟨.r, 0, [], []⟩, pN, pN, ⟨.r, 0, [], []⟩, ⟨.r, 0, [], []⟩, pN, pN, pN]),
 (3, 16, 0, [pN, pN, pN, pN, pN, pN, pN, ⟨.r, 0, [], []⟩, ⟨.r, 0, [], []⟩, pN, pN, ⟨.r, 0, [], []⟩, ⟨.r, 0, [], []⟩, pN, pN, pN]),
 (5, 17, 0, [pN, pN, pN, pN, pN, pN, pN, ⟨.r, 0, [], []⟩, ⟨.r, 0, [], []⟩, pN, pN, ⟨.r, 0, [], []⟩, ⟨.r, 0, [], []⟩, pN, pN, pN, pN]),
 (13, 16, 0, [pN, pN, pN, pN, pN, pN, pN, ⟨.r, 0, [], []⟩, ⟨.r, 0, [], []⟩, pN, pN, ⟨.r, 0, [], []⟩, ⟨.r, 0, [], []⟩, pN, pN, pN]),
 (15, 17, 0, [pN, pN, pN, pN, pN, pN, pN, ⟨.r, 0, [], []⟩, ⟨.r, 0, [], []⟩, pN, pN, ⟨.r, 0, [], []⟩, ⟨.r, 0, [], []⟩, pN, pN, pN, pN]),
 (3, 20, 0, [pN, pN, pN, pN, pN, pN, pN, pN, pN, ⟨.r, 0, [], []⟩, ⟨.r, 0, [], []⟩, pN, pN, pN, pN, pN, ⟨.r, 0, [], []⟩, ⟨.r, 0, [], []⟩, pN, pN]),
 (5, 14, 0, [pN, pN, pN, pN, ⟨.r, 0, [], []⟩, ⟨.r, 0, [], []⟩, pN, pN, pN, pN, ⟨.r, 0, [], []⟩, ⟨.r, 0, [], []⟩, pN, pN]),
 (6, 24, 2, [pN, pN, pN, ⟨.n, 0, [], [1,2]⟩, pN, pN, pN, ⟨.n, 0, [], [5,6]⟩, pN, pN, pN, ⟨.n, 0, [], [9,10]⟩, ⟨.r, 0, [], [8,9,10,11]⟩, ⟨.r, 0, [], [8,9,10,11,12]⟩, pN, pN, pN, ⟨.n, 0, [], [15,16]⟩, ⟨.r, 0, [], [14,15,16,17]⟩, ⟨.r, 0, [], [14,15,16,17,18]⟩, ⟨.r, 0, [], [0,1,2,3,8,9,10,11,12,13,14,15,16,17,18,19]⟩, ⟨.w, 0, [], [0,1,2,3,8,9,10,11,12,13,14,15,16,17,18,19,20]⟩, ⟨.r, 0, [], [0,1,2,3,4,5,6,7,8,9,10,11,12,13,14,15,16,17,18,19,20,21]⟩, ⟨.w, 1, [], [0,1,2,3,4,5,6,7,8,9,10,11,12,13,14,15,16,17,18,19,20,21,22]⟩]),
 (1, 10, 1, [pN, pN, ⟨.r, 0, [], []⟩, pN, pN, ⟨.r, 0, [], []⟩, pN, pN, pN, ⟨.w, 0, [], []⟩]),
 (2, 10, 1, [pN, pN, ⟨.r, 0, [], []⟩, pN, pN, ⟨.r, 0, [], []⟩, pN, pN, pN, ⟨.w, 0, [], []⟩]),
 (3, 10, 1, [pN, pN, ⟨.r, 0, [], []⟩, pN, pN, ⟨.r, 0, [], []⟩, pN, pN, pN, ⟨.w, 0, [], []⟩]),
 (3, 22, 0, [pN, pN, pN, pN, pN, pN, pN, pN, pN, pN, ⟨.r, 0, [], []⟩, ⟨.r, 0, [], []⟩, pN, pN, pN, pN, pN, ⟨.r, 0, [], []⟩, ⟨.r, 0, [], []⟩, pN, pN, pN]),
 (5, 16, 0, [pN, pN, pN, pN, pN, ⟨.r, 0, [], []⟩, ⟨.r, 0, [], []⟩, pN, pN, pN, pN, ⟨.r, 0, [], []⟩, ⟨.r, 0, [], []⟩, pN, pN, pN]),
 (1, 9, 0, [pN, pN, ⟨.r, 0, [], []⟩, ⟨.r, 0, [], []⟩, pN, pN, ⟨.r, 0, [], []⟩, ⟨.r, 0, [], []⟩, pN]),
 (1, 11, 0, [pN, pN, pN, ⟨.r, 0, [], []⟩, ⟨.r, 0, [], []⟩, pN, pN, ⟨.r, 0, [], []⟩, ⟨.r, 0, [], []⟩, pN, pN]),
 (7, 18, 1, [pN, pN, pN, pN, pN, pN, pN, pN, ⟨.r, 0, [], []⟩, ⟨.r, 0, [], []⟩, pN, pN, pN, pN, pN, pN, ⟨.r, 0, [], []⟩, ⟨.w, 0, [], []⟩])]
theorem ev_call {nat : NatF} {orc : FuncId → List V → Option V} (hor : OrcOk Tryz.prog orc) (hna : NatFOk Tryz.prog nat) (n : Nat) {f : FuncId} {vs : List V} {r : V} (h : pureF Tryz.prog tt (ev Tryz.prog tt plans nat orc n) f vs = some r) : FnOk Tryz.prog f vs r := ev_fn tt_ok mixed_ok hcall hor hna n h
/-- The functions of the model's own. -/
noncomputable def natS : NatF := fun f vs => if f = 204 then idxStr vs else natV Tryz.prog f vs
theorem natS_ok (hG : Glob.g = some 0) : NatFOk Tryz.prog natS := fun f vs r h => by
 unfold natS at h
 split at h
 ·rename_i hf
  subst hf
  exact idxStr_ok (fn := Tryz.f204) (by kernel_rfl) (by kernel_rfl) (by kernel_rfl) (by kernel_rfl) (by kernel_rfl) (fun w => by
   simp only [globalAddr,program,Sem.run_bind]
   show (match Tryz.prog.globals.findIdx? (fun x => x.name == "internal/bytealg.MaxLen") with | some g => _ | none => _ : Sem Addr).run Tryz.prog w = _
   rw [show Tryz.prog.globals.findIdx? (fun x => x.name == "internal/bytealg.MaxLen") = some 0 from by kernel_rfl]; rfl) hG h
 ·exact natV_ok h
end Go.Proofs.YtpjdfcigadnhcaaGreatDoor
end
