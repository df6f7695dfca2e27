import Derived.Test.YtfbbfmcggbapoaaGreatDoorE4
import Derived.Test.YtfbbfmcggbapoaaGreatDoorProg
import Derived.KernelRfl
open Go.Proofs.Tryz renaming prog→aj
set_option linter.all false
section
namespace Go.Proofs.YtfbbfmcggbapoaaGreatDoor
open Go.Eng
variable [ba]
set_option maxHeartbeats 4000000
set_option maxRecDepth 100000
def b7:Ti := { size:=1,agg:=false,zero:=[.nilFunc],bytes:=8 }
def Ja:Ti := { size:=1,agg:=false,zero:=[.pointer none],bytes:=8 }
def U1:Ti := { size:=1,agg:=false,zero:=[.int .u8 0],bytes:=1 }
def U2:Ti := { size:=2,agg:=true,zero:=[.string ⟨#[]⟩,.string ⟨#[]⟩],bA:=[(0,1),(1,1)],bytes:=32 }
def Zw:Ti := { size:=1,agg:=false,zero:=[.int .i64 0],bytes:=8 }
def Zx:Ti := { size:=1,agg:=false,zero:=[.string ⟨#[]⟩],bytes:=16 }
def Zy:Ti := { size:=1,agg:=false,zero:=[.int .u64 0],bytes:=8 }
def Zz:Ti := { size:=1,agg:=false,zero:=[.nilIface],bytes:=16 }
def ZA:Ti := { size:=1,agg:=false,zero:=[.int .i32 0],bytes:=4 }
def ZB:Ti := { size:=0,agg:=true,zero:=[],bytes:=0 }
def Xa:Ti := { size:=4,agg:=true,zero:=[.int .i64 0,.int .i64 0,.bool false,.int .u8 0],bA:=[(0,1),(1,1),(2,1),(3,1)],bytes:=24 }
def Xb:Ti := { size:=2,agg:=true,zero:=[.string ⟨#[]⟩,.int .u64 0],bA:=[(0,1),(1,1)],bytes:=24 }
def Xc:Ti := { size:=1,agg:=true,zero:=[.pointer none],bA:=[(0,1)],bytes:=8 }
def Xd:Ti := { size:=5,agg:=true,zero:=[.int .i64 0,.string ⟨#[]⟩,.string ⟨#[]⟩,.slice none 0 0,.slice none 0 0],bA:=[(0,1),(1,1),(2,1),(3,1),(4,1)],bytes:=88 }
def Xe:Ti := { size:=8,agg:=true,zero:=[.int .i64 0,.string ⟨#[]⟩,.string ⟨#[]⟩,.string ⟨#[]⟩,.int .i64 0,.slice none 0 0,.slice none 0 0,.slice none 0 0],bA:=[(0,1),(1,1),(2,1),(3,1),(4,1),(5,1),(6,1),(7,1)],bytes:=136 }
def Xf:Ti := { size:=3,agg:=true,zero:=[.string ⟨#[]⟩,.slice none 0 0,.slice none 0 0],bA:=[(0,1),(1,1),(2,1)],bytes:=64 }
def Xg:Ti := { size:=3,agg:=true,zero:=[.int .i64 0,.string ⟨#[]⟩,.int .i64 0],bA:=[(0,1),(1,1),(2,1)],bytes:=32 }
def Xh:Ti := { size:=31,agg:=true,zero:=[.int .i64 0,.string ⟨#[]⟩,.bool false,.bool false,.string ⟨#[]⟩,.slice none 0 0,.int .i64 0,.string ⟨#[]⟩,.string ⟨#[]⟩,.slice none 0 0,.slice none 0 0,.int .i64 0,.string ⟨#[]⟩,.string ⟨#[]⟩,.slice none 0 0,.slice none 0 0,.int .i64 0,.string ⟨#[]⟩,.string ⟨#[]⟩,.slice none 0 0,.slice none 0 0,.int .i64 0,.string ⟨#[]⟩,.string ⟨#[]⟩,.string ⟨#[]⟩,.int .i64 0,.slice none 0 0,.slice none 0 0,.slice none 0 0,.string ⟨#[]⟩,.string ⟨#[]⟩],bA:=[(0,1),(1,1),(2,1),(3,1),(4,1),(5,1),(6,5),(11,5),(16,5),(21,8),(29,1),(30,1)],bytes:=504 }
def Xi:Ti := { size:=4,agg:=true,zero:=[.slice none 0 0,.int .i64 0,.int .i64 0,.int .i64 0],bA:=[(0,1),(1,1),(2,1),(3,1)],bytes:=48 }
def Xj:Ti := { size:=7,agg:=true,zero:=[.string ⟨#[]⟩,.int .i64 0,.string ⟨#[]⟩,.string ⟨#[]⟩,.slice none 0 0,.slice none 0 0,.bool false],bA:=[(0,1),(1,5),(6,1)],bytes:=112 }
def Xk:Ti := { size:=8,agg:=true,zero:=[.string ⟨#[]⟩,.string ⟨#[]⟩,.int .i64 0,.string ⟨#[]⟩,.string ⟨#[]⟩,.slice none 0 0,.slice none 0 0,.bool false],bA:=[(0,1),(1,1),(2,5),(7,1)],bytes:=128 }
def Xl:Ti := { size:=7,agg:=true,zero:=[.string ⟨#[]⟩,.int .i64 0,.int .i64 0,.string ⟨#[]⟩,.string ⟨#[]⟩,.slice none 0 0,.slice none 0 0],bA:=[(0,1),(1,1),(2,5)],bytes:=112 }
def Xm:Ti := { size:=2,agg:=true,zero:=[.pointer none,.slice none 0 0],bA:=[(0,1),(1,1)],bytes:=32 }
def Xn:Ti := { size:=2,agg:=true,zero:=[.pointer none,.slice none 0 0],bA:=[(0,2)],bytes:=32 }
def Xo:Ti := { size:=1,agg:=false,zero:=[.map none],bytes:=8 }
def Xp:Ti := { size:=4,agg:=true,zero:=[.string ⟨#[]⟩,.int .i64 0,.bool false,.int .i64 0],bA:=[(0,1),(1,1),(2,1),(3,1)],bytes:=40 }
def Xq:Ti := { size:=9,agg:=true,zero:=[.bool false,.bool false,.bool false,.bool false,.bool false,.bool false,.bool false,.int .i64 0,.bool false],bA:=[(0,1),(1,1),(2,1),(3,1),(4,1),(5,1),(6,1),(7,1),(8,1)],bytes:=24 }
def Xr:Ti := { size:=32,agg:=true,zero:=[.int .u8 0,.int .u8 0,.int .u8 0,.int .u8 0,.int .u8 0,.int .u8 0,.int .u8 0,.int .u8 0,.int .u8 0,.int .u8 0,.int .u8 0,.int .u8 0,.int .u8 0,.int .u8 0,.int .u8 0,.int .u8 0,.int .u8 0,.int .u8 0,.int .u8 0,.int .u8 0,.int .u8 0,.int .u8 0,.int .u8 0,.int .u8 0,.int .u8 0,.int .u8 0,.int .u8 0,.int .u8 0,.int .u8 0,.int .u8 0,.int .u8 0,.int .u8 0],bytes:=32 }
def Xs:Ti := { size:=2,agg:=true,zero:=[.int .u8 0,.int .u8 0],bA:=[(0,1),(1,1)],bytes:=2 }
def Xt:Ti := { size:=4,agg:=true,zero:=[.pointer none,.pointer none,.pointer none,.string ⟨#[]⟩],bA:=[(0,1),(1,1),(2,1),(3,1)],bytes:=40 }
def Xu:Ti := { size:=11,agg:=true,zero:=[.int .u64 0,.int .u64 0,.int .u32 0,.int .u8 0,.int .u8 0,.int .u8 0,.int .u8 0,.nilFunc,.pointer none,.int .i32 0,.int .i32 0],bA:=[(0,1),(1,1),(2,1),(3,1),(4,1),(5,1),(6,1),(7,1),(8,1),(9,1),(10,1)],bytes:=48 }
def tab:List (Nat×Ti):=[
 (1,b7),
 (2,Zw),
 (3,Zw),
 (4,{ size:=1,agg:=false,zero:=[.bool false],bytes:=1 }),
 (5,U1),
 (6,U1),
 (7,Xa),
 (8,Xa),
 (9,Zx),
 (10,Zx),
 (11,Zx),
 (12,Zy),
 (13,Xb),
 (14,Xb),
 (15,Ja),
 (16,Ja),
 (17,Ja),
 (18,Xc),
 (19,Xc),
 (20,Zz),
 (21,ZA),
 (22,{ size:=1,agg:=false,zero:=[.slice none 0 0],elem:=some 25,bytes:=24 }),
 (23,{ size:=1,agg:=false,zero:=[.slice none 0 0],elem:=some 95,bytes:=24 }),
 (24,Xd),
 (25,Xd),
 (26,{ size:=1,agg:=false,zero:=[.slice none 0 0],elem:=some 100,bytes:=24 }),
 (27,{ size:=1,agg:=false,zero:=[.slice none 0 0],elem:=some 29,bytes:=24 }),
 (28,Xe),
 (29,Xe),
 (30,{ size:=1,agg:=false,zero:=[.slice none 0 0],elem:=some 84,bytes:=24 }),
 (31,{ size:=1,agg:=false,zero:=[.slice none 0 0],elem:=some 80,bytes:=24 }),
 (32,Xf),
 (33,Xf),
 (34,b7),
 (35,b7),
 (36,Zw),
 (38,b7),
 (39,b7),
 (40,b7),
 (42,b7),
 (43,b7),
 (45,b7),
 (46,b7),
 (48,b7),
 (49,b7),
 (50,b7),
 (51,b7),
 (52,b7),
 (53,{ size:=1,agg:=false,zero:=[.slice none 0 0],elem:=some 58,bytes:=24 }),
 (55,b7),
 (56,{ size:=1,agg:=false,zero:=[.slice none 0 0],elem:=some 3,bytes:=24 }),
 (57,Xg),
 (58,Xg),
 (59,b7),
 (60,b7),
 (61,b7),
 (62,b7),
 (63,b7),
 (64,b7),
 (65,b7),
 (66,b7),
 (67,b7),
 (68,Ja),
 (69,b7),
 (70,b7),
 (71,b7),
 (72,b7),
 (73,b7),
 (74,b7),
 (76,b7),
 (77,b7),
 (78,{ size:=1,agg:=false,zero:=[.slice none 0 0],elem:=some 123,bytes:=24 }),
 (79,Xh),
 (80,Xh),
 (81,b7),
 (82,b7),
 (83,U2),
 (84,U2),
 (85,b7),
 (86,b7),
 (87,Xi),
 (88,Xi),
 (89,b7),
 (91,b7),
 (92,b7),
 (93,b7),
 (94,Xj),
 (95,Xj),
 (96,b7),
 (98,b7),
 (99,Xk),
 (100,Xk),
 (102,b7),
 (103,b7),
 (104,b7),
 (106,b7),
 (107,b7),
 (109,b7),
 (110,b7),
 (111,b7),
 (112,b7),
 (114,b7),
 (115,{ size:=1,agg:=false,zero:=[.slice none 0 0],elem:=some 118,bytes:=24 }),
 (116,b7),
 (117,U2),
 (118,U2),
 (119,{ size:=1,agg:=false,zero:=[.slice none 0 0],elem:=some 9,bytes:=24 }),
 (120,b7),
 (121,b7),
 (122,Xl),
 (123,Xl),
 (124,Ja),
 (125,{ size:=1,agg:=false,zero:=[.slice none 0 0],elem:=some 5,bytes:=24 }),
 (126,Xm),
 (127,Xm),
 (128,Xn),
 (129,Xn),
 (130,b7),
 (131,b7),
 (132,b7),
 (133,b7),
 (134,b7),
 (135,b7),
 (136,b7),
 (137,b7),
 (138,b7),
 (139,b7),
 (140,b7),
 (141,{ size:=5,agg:=true,zero:=[.string ⟨#[]⟩,.string ⟨#[]⟩,.string ⟨#[]⟩,.string ⟨#[]⟩,.string ⟨#[]⟩],bytes:=80 }),
 (142,b7),
 (143,b7),
 (144,Xo),
 (145,b7),
 (146,b7),
 (147,b7),
 (148,b7),
 (149,b7),
 (150,b7),
 (151,b7),
 (152,b7),
 (153,b7),
 (154,b7),
 (155,b7),
 (156,b7),
 (157,b7),
 (158,b7),
 (159,b7),
 (160,b7),
 (161,b7),
 (162,b7),
 (163,b7),
 (164,b7),
 (165,b7),
 (166,b7),
 (167,b7),
 (168,b7),
 (169,Zz),
 (170,Zz),
 (172,b7),
 (173,b7),
 (174,b7),
 (175,b7),
 (177,b7),
 (179,b7),
 (181,b7),
 (182,b7),
 (183,b7),
 (185,b7),
 (186,b7),
 (187,b7),
 (188,b7),
 (189,b7),
 (190,b7),
 (191,b7),
 (192,b7),
 (193,b7),
 (194,Ja),
 (195,b7),
 (196,b7),
 (197,b7),
 (198,b7),
 (199,b7),
 (200,Xp),
 (201,Xp),
 (203,b7),
 (204,b7),
 (205,b7),
 (206,b7),
 (207,b7),
 (208,b7),
 (209,Zy),
 (210,{ size:=2,agg:=true,zero:=[.int .i64 0,.int .i64 0],bytes:=16 }),
 (212,b7),
 (214,b7),
 (215,b7),
 (216,b7),
 (217,Xo),
 (218,b7),
 (219,{ size:=3,agg:=true,zero:=[.string ⟨#[]⟩,.string ⟨#[]⟩,.string ⟨#[]⟩],bytes:=48 }),
 (221,b7),
 (222,b7),
 (223,b7),
 (224,b7),
 (226,b7),
 (227,b7),
 (228,b7),
 (229,b7),
 (230,b7),
 (231,Xq),
 (232,Xq),
 (234,b7),
 (235,b7),
 (236,b7),
 (237,b7),
 (238,b7),
 (239,b7),
 (240,b7),
 (241,b7),
 (242,b7),
 (243,b7),
 (244,b7),
 (245,Ja),
 (246,b7),
 (247,b7),
 (248,b7),
 (249,b7),
 (250,b7),
 (251,b7),
 (252,b7),
 (253,b7),
 (255,b7),
 (256,{ size:=24,agg:=true,zero:=[.int .u8 0,.int .u8 0,.int .u8 0,.int .u8 0,.int .u8 0,.int .u8 0,.int .u8 0,.int .u8 0,.int .u8 0,.int .u8 0,.int .u8 0,.int .u8 0,.int .u8 0,.int .u8 0,.int .u8 0,.int .u8 0,.int .u8 0,.int .u8 0,.int .u8 0,.int .u8 0,.int .u8 0,.int .u8 0,.int .u8 0,.int .u8 0],bytes:=24 }),
 (257,Zy),
 (258,b7),
 (259,b7),
 (261,b7),
 (262,b7),
 (263,b7),
 (264,b7),
 (265,b7),
 (266,b7),
 (267,{ size:=20,agg:=true,zero:=[.int .u64 0,.int .u64 0,.int .u64 0,.int .u64 0,.int .u64 0,.int .u64 0,.int .u64 0,.int .u64 0,.int .u64 0,.int .u64 0,.int .u64 0,.int .u64 0,.int .u64 0,.int .u64 0,.int .u64 0,.int .u64 0,.int .u64 0,.int .u64 0,.int .u64 0,.int .u64 0],bytes:=160 }),
 (268,{ size:=1,agg:=false,zero:=[.int .u32 0],bytes:=4 }),
 (269,{ size:=65,agg:=true,zero:=[.int .u8 0,.int .u8 0,.int .u8 0,.int .u8 0,.int .u8 0,.int .u8 0,.int .u8 0,.int .u8 0,.int .u8 0,.int .u8 0,.int .u8 0,.int .u8 0,.int .u8 0,.int .u8 0,.int .u8 0,.int .u8 0,.int .u8 0,.int .u8 0,.int .u8 0,.int .u8 0,.int .u8 0,.int .u8 0,.int .u8 0,.int .u8 0,.int .u8 0,.int .u8 0,.int .u8 0,.int .u8 0,.int .u8 0,.int .u8 0,.int .u8 0,.int .u8 0,.int .u8 0,.int .u8 0,.int .u8 0,.int .u8 0,.int .u8 0,.int .u8 0,.int .u8 0,.int .u8 0,.int .u8 0,.int .u8 0,.int .u8 0,.int .u8 0,.int .u8 0,.int .u8 0,.int .u8 0,.int .u8 0,.int .u8 0,.int .u8 0,.int .u8 0,.int .u8 0,.int .u8 0,.int .u8 0,.int .u8 0,.int .u8 0,.int .u8 0,.int .u8 0,.int .u8 0,.int .u8 0,.int .u8 0,.int .u8 0,.int .u8 0,.int .u8 0,.int .u8 0],bytes:=65 }),
 (270,b7),
 (271,b7),
 (273,b7),
 (274,b7),
 (275,b7),
 (277,b7),
 (278,Xr),
 (279,{ size:=64,agg:=true,zero:=[.int .u8 0,.int .u8 0,.int .u8 0,.int .u8 0,.int .u8 0,.int .u8 0,.int .u8 0,.int .u8 0,.int .u8 0,.int .u8 0,.int .u8 0,.int .u8 0,.int .u8 0,.int .u8 0,.int .u8 0,.int .u8 0,.int .u8 0,.int .u8 0,.int .u8 0,.int .u8 0,.int .u8 0,.int .u8 0,.int .u8 0,.int .u8 0,.int .u8 0,.int .u8 0,.int .u8 0,.int .u8 0,.int .u8 0,.int .u8 0,.int .u8 0,.int .u8 0,.int .u8 0,.int .u8 0,.int .u8 0,.int .u8 0,.int .u8 0,.int .u8 0,.int .u8 0,.int .u8 0,.int .u8 0,.int .u8 0,.int .u8 0,.int .u8 0,.int .u8 0,.int .u8 0,.int .u8 0,.int .u8 0,.int .u8 0,.int .u8 0,.int .u8 0,.int .u8 0,.int .u8 0,.int .u8 0,.int .u8 0,.int .u8 0,.int .u8 0,.int .u8 0,.int .u8 0,.int .u8 0,.int .u8 0,.int .u8 0,.int .u8 0,.int .u8 0],bytes:=64 }),
 (281,Xs),
 (282,Xs),
 (283,Xr),
 (284,Xt),
 (285,Xt),
 (286,ZB),
 (287,ZB),
 (288,ZB),
 (289,U1),
 (290,U1),
 (291,b7),
 (292,ZA),
 (293,ZA),
 (294,Xu),
 (295,Xu)]
def tt:Table:=tc tab
theorem tt_ok:TT aj tt:=tt_of (P:=aj) (l:=tab) (by kernel_rfl)
theorem cB:aj.follows .mixedOrders=true:=by kernel_rfl
theorem tt3:tt 3=some { size:=1,agg:=false,zero:=[.int .i64 0],bytes:=8 }:=by kernel_rfl
theorem tt4:tt 4=some { size:=1,agg:=false,zero:=[.bool false],bytes:=1 }:=by kernel_rfl
theorem tt5:tt 5=some { size:=1,agg:=false,zero:=[.int .u8 0],bytes:=1 }:=by kernel_rfl
theorem tt9:tt 9=some { size:=1,agg:=false,zero:=[.string ⟨#[]⟩],bytes:=16 }:=by kernel_rfl
theorem akz:tt 22=some { size:=1,agg:=false,zero:=[.slice none 0 0],elem:=some 25,bytes:=24 }:=by kernel_rfl
theorem akA:tt 23=some { size:=1,agg:=false,zero:=[.slice none 0 0],elem:=some 95,bytes:=24 }:=by kernel_rfl
theorem akB:tt 25=some { size:=5,agg:=true,zero:=[.int .i64 0,.string ⟨#[]⟩,.string ⟨#[]⟩,.slice none 0 0,.slice none 0 0],bA:=[(0,1),(1,1),(2,1),(3,1),(4,1)],bytes:=88 }:=by kernel_rfl
theorem akC:tt 26=some { size:=1,agg:=false,zero:=[.slice none 0 0],elem:=some 100,bytes:=24 }:=by kernel_rfl
theorem akD:tt 27=some { size:=1,agg:=false,zero:=[.slice none 0 0],elem:=some 29,bytes:=24 }:=by kernel_rfl
theorem akE:tt 29=some { size:=8,agg:=true,zero:=[.int .i64 0,.string ⟨#[]⟩,.string ⟨#[]⟩,.string ⟨#[]⟩,.int .i64 0,.slice none 0 0,.slice none 0 0,.slice none 0 0],bA:=[(0,1),(1,1),(2,1),(3,1),(4,1),(5,1),(6,1),(7,1)],bytes:=136 }:=by kernel_rfl
theorem akF:tt 30=some { size:=1,agg:=false,zero:=[.slice none 0 0],elem:=some 84,bytes:=24 }:=by kernel_rfl
theorem akG:tt 31=some { size:=1,agg:=false,zero:=[.slice none 0 0],elem:=some 80,bytes:=24 }:=by kernel_rfl
theorem akH:tt 33=some { size:=3,agg:=true,zero:=[.string ⟨#[]⟩,.slice none 0 0,.slice none 0 0],bA:=[(0,1),(1,1),(2,1)],bytes:=64 }:=by kernel_rfl
theorem akI:tt 36=some { size:=1,agg:=false,zero:=[.int .i64 0],bytes:=8 }:=by kernel_rfl
theorem akJ:tt 50=some { size:=1,agg:=false,zero:=[.nilFunc],bytes:=8 }:=by kernel_rfl
theorem akK:tt 53=some { size:=1,agg:=false,zero:=[.slice none 0 0],elem:=some 58,bytes:=24 }:=by kernel_rfl
theorem akL:tt 58=some { size:=3,agg:=true,zero:=[.int .i64 0,.string ⟨#[]⟩,.int .i64 0],bA:=[(0,1),(1,1),(2,1)],bytes:=32 }:=by kernel_rfl
theorem akM:tt 59=some { size:=1,agg:=false,zero:=[.nilFunc],bytes:=8 }:=by kernel_rfl
theorem akN:tt 62=some { size:=1,agg:=false,zero:=[.nilFunc],bytes:=8 }:=by kernel_rfl
theorem akO:tt 68=some { size:=1,agg:=false,zero:=[.pointer none],bytes:=8 }:=by kernel_rfl
theorem akP:tt 78=some { size:=1,agg:=false,zero:=[.slice none 0 0],elem:=some 123,bytes:=24 }:=by kernel_rfl
theorem akQ:tt 80=some { size:=31,agg:=true,zero:=[.int .i64 0,.string ⟨#[]⟩,.bool false,.bool false,.string ⟨#[]⟩,.slice none 0 0,.int .i64 0,.string ⟨#[]⟩,.string ⟨#[]⟩,.slice none 0 0,.slice none 0 0,.int .i64 0,.string ⟨#[]⟩,.string ⟨#[]⟩,.slice none 0 0,.slice none 0 0,.int .i64 0,.string ⟨#[]⟩,.string ⟨#[]⟩,.slice none 0 0,.slice none 0 0,.int .i64 0,.string ⟨#[]⟩,.string ⟨#[]⟩,.string ⟨#[]⟩,.int .i64 0,.slice none 0 0,.slice none 0 0,.slice none 0 0,.string ⟨#[]⟩,.string ⟨#[]⟩],bA:=[(0,1),(1,1),(2,1),(3,1),(4,1),(5,1),(6,5),(11,5),(16,5),(21,8),(29,1),(30,1)],bytes:=504 }:=by kernel_rfl
theorem akR:tt 84=some { size:=2,agg:=true,zero:=[.string ⟨#[]⟩,.string ⟨#[]⟩],bA:=[(0,1),(1,1)],bytes:=32 }:=by kernel_rfl
theorem akS:tt 95=some { size:=7,agg:=true,zero:=[.string ⟨#[]⟩,.int .i64 0,.string ⟨#[]⟩,.string ⟨#[]⟩,.slice none 0 0,.slice none 0 0,.bool false],bA:=[(0,1),(1,5),(6,1)],bytes:=112 }:=by kernel_rfl
theorem aeE:tt 100=some { size:=8,agg:=true,zero:=[.string ⟨#[]⟩,.string ⟨#[]⟩,.int .i64 0,.string ⟨#[]⟩,.string ⟨#[]⟩,.slice none 0 0,.slice none 0 0,.bool false],bA:=[(0,1),(1,1),(2,5),(7,1)],bytes:=128 }:=by kernel_rfl
theorem aeF:tt 119=some { size:=1,agg:=false,zero:=[.slice none 0 0],elem:=some 9,bytes:=24 }:=by kernel_rfl
theorem aeG:tt 123=some { size:=7,agg:=true,zero:=[.string ⟨#[]⟩,.int .i64 0,.int .i64 0,.string ⟨#[]⟩,.string ⟨#[]⟩,.slice none 0 0,.slice none 0 0],bA:=[(0,1),(1,1),(2,5)],bytes:=112 }:=by kernel_rfl
theorem Qg:tt 125=some { size:=1,agg:=false,zero:=[.slice none 0 0],elem:=some 5,bytes:=24 }:=by kernel_rfl
theorem Xw:tt 127=some { size:=2,agg:=true,zero:=[.pointer none,.slice none 0 0],bA:=[(0,1),(1,1)],bytes:=32 }:=by kernel_rfl
theorem Xx:tt 129=some { size:=2,agg:=true,zero:=[.pointer none,.slice none 0 0],bA:=[(0,2)],bytes:=32 }:=by kernel_rfl
theorem aeH:tt 141=some { size:=5,agg:=true,zero:=[.string ⟨#[]⟩,.string ⟨#[]⟩,.string ⟨#[]⟩,.string ⟨#[]⟩,.string ⟨#[]⟩],bytes:=80 }:=by kernel_rfl
theorem aeI:tt 144=some { size:=1,agg:=false,zero:=[.map none],bytes:=8 }:=by kernel_rfl
theorem AF:tt 201=some { size:=4,agg:=true,zero:=[.string ⟨#[]⟩,.int .i64 0,.bool false,.int .i64 0],bA:=[(0,1),(1,1),(2,1),(3,1)],bytes:=40 }:=by kernel_rfl
theorem aeJ:tt 210=some { size:=2,agg:=true,zero:=[.int .i64 0,.int .i64 0],bytes:=16 }:=by kernel_rfl
theorem aeK:tt 219=some { size:=3,agg:=true,zero:=[.string ⟨#[]⟩,.string ⟨#[]⟩,.string ⟨#[]⟩],bytes:=48 }:=by kernel_rfl
theorem fS (f:FuncId) (fn:Func) (body:Code) (hf:aj.funcs[f]?=some fn) (hb:fn.body=some body) (xs:Array Value) (w:World):(callFunc f xs).run aj w = .ok (.enter f xs) w:=Qe (by kernel_rfl) f fn body hf hb xs w
def Qh:Gi:=Zv [
 (7,5,0,[⟨.r,0,[],[],[]⟩,⟨.r,0,[],[],[]⟩,⟨.n,0,[],[1],[]⟩,⟨.n,0,[],[0,1,2],[]⟩,⟨.e,904,[],[0,1,2,3],[]⟩]),
 (16,10,0,[pN,pN,⟨.r,0,[],[],[]⟩,pN,pN,pN,⟨.r,0,[],[],[]⟩,pN,pN,pN]),
 (5,6,0,[⟨.r,0,[],[],[]⟩,pN,pN,⟨.r,0,[],[1,2],[]⟩,⟨.r,0,[],[1,2,3],[]⟩,⟨.z,0,[],[0,1,2,3,4],[]⟩]),
 (4,7,0,[pN,⟨.n,0,[],[0],[]⟩,pN,⟨.n,0,[],[0,1,2],[]⟩,⟨.r,0,[],[],[]⟩,⟨.n,0,[],[0,1,2,3],[]⟩,⟨.e,906,[],[0,1,2,3,4,5],[]⟩]),
 (7,4,0,[pN,⟨.r,0,[],[],[]⟩,⟨.n,0,[],[0],[]⟩,⟨.e,903,[],[0,1,2],[]⟩]),
 (4,9,0,[pN,⟨.r,0,[],[0],[]⟩,pN,⟨.r,0,[],[2],[]⟩,⟨.r,0,[],[],[]⟩,⟨.n,0,[],[4],[]⟩,⟨.n,0,[],[0,1,4,5],[]⟩,⟨.n,0,[],[0,1,2,3,4,5,6],[]⟩,⟨.e,908,[],[0,1,2,3,4,5,6,7],[]⟩]),
 (9,8,0,[⟨.r,0,[],[],[]⟩,⟨.r,0,[],[],[]⟩,⟨.n,0,[],[1],[]⟩,⟨.n,0,[],[0,1,2],[]⟩,⟨.n,0,[],[0,1,2,3],[]⟩,⟨.n,0,[],[0,1,2,3],[]⟩,⟨.e,906,[],[0,1,2,3,4,5],[]⟩,⟨.e,907,[],[0,1,2,3,4,5,6],[]⟩]),
 (10,5,0,[pN,pN,pN,⟨.r,0,[],[],[]⟩,pN]),
 (21,22,0,[pN,pN,pN,pN,⟨.r,0,[],[],[]⟩,⟨.r,0,[],[],[]⟩,pN,pN,pN,pN,pN,pN,⟨.r,0,[],[],[]⟩,⟨.r,0,[],[],[]⟩,pN,⟨.r,0,[],[],[]⟩,pN,pN,⟨.r,0,[],[],[]⟩,⟨.r,0,[],[],[]⟩,pN,pN]),
 (22,13,0,[pN,pN,⟨.r,0,[],[0,1],[]⟩,⟨.r,0,[],[0,1,2],[]⟩,⟨.n,0,[],[0,1,2,3],[]⟩,pN,pN,⟨.r,0,[],[5,6],[910]⟩,⟨.r,0,[],[5,6,7],[910]⟩,⟨.n,0,[],[5,6,7,8],[]⟩,⟨.e,910,[],[0,1,2,3,4],[]⟩,⟨.n,0,[],[0,1,2,3,4,5,6,7,8,9,10],[]⟩,⟨.n,0,[],[0,1,2,3,4,5,6,7,8,9,10,11],[]⟩]),
 (2,3,0,[⟨.r,0,[],[],[]⟩,pN,⟨.e,902,[],[0,1],[]⟩]),
 (16,10,0,[pN,⟨.n,0,[],[0],[]⟩,⟨.n,0,[],[0,1],[]⟩,⟨.r,0,[],[0,1,2],[]⟩,⟨.n,0,[],[0,1,2],[]⟩,⟨.n,0,[],[0,1,2],[]⟩,⟨.r,0,[],[0,1,2,4,5],[]⟩,⟨.r,0,[],[0,1,2,4,5,6],[]⟩,⟨.z,0,[],[0,1,2,3,4,5,6,7],[]⟩,⟨.n,0,[],[0,1,2,3,4,5,6,7,8],[]⟩]),
 (18,11,0,[pN,pN,⟨.r,0,[],[0,1],[]⟩,⟨.r,0,[],[0,1,2],[]⟩,⟨.r,0,[],[],[]⟩,⟨.r,0,[],[],[]⟩,⟨.n,0,[],[4,5],[]⟩,⟨.n,0,[],[0,1,2,3,4,5,6],[]⟩,⟨.r,0,[],[],[909]⟩,⟨.e,909,[],[0,1,2,3,4,5,6,7],[]⟩,⟨.e,910,[],[0,1,2,3,4,5,6,7,8,9],[]⟩]),
 (22,4,0,[⟨.r,0,[],[],[]⟩,⟨.r,0,[],[],[902]⟩,⟨.e,902,[],[0],[]⟩,⟨.e,903,[],[0,1,2],[]⟩]),
 (14,4,0,[⟨.r,0,[],[],[]⟩,⟨.r,0,[],[],[902]⟩,⟨.e,902,[],[0],[]⟩,⟨.e,903,[],[0,1,2],[]⟩]),
 (7,18,1,[pN,pN,pN,pN,pN,pN,pN,pN,⟨.r,0,[],[],[]⟩,⟨.r,0,[],[],[]⟩,pN,pN,pN,pN,pN,pN,⟨.r,0,[],[],[]⟩,⟨.w,0,[],[],[]⟩]),
 (34,10,0,[pN,⟨.r,0,[],[0],[]⟩,⟨.n,0,[],[0,1],[]⟩,⟨.n,0,[],[0,1,2],[]⟩,pN,⟨.r,0,[],[4],[]⟩,⟨.n,0,[],[0,1,2,4,5],[]⟩,⟨.n,0,[],[0,1,2,4,5,6],[]⟩,⟨.e,908,[],[0,1,2,3,4,5,6],[]⟩,⟨.n,0,[],[0,1,2,3,4,5,6,7,8],[]⟩]),
 (5,5,0,[pN,⟨.n,0,[],[0],[]⟩,⟨.r,0,[],[],[903]⟩,⟨.e,903,[],[0,1],[]⟩,⟨.e,904,[],[0,1,2,3],[]⟩]),
 (8,4,0,[⟨.r,0,[],[],[]⟩,⟨.r,0,[],[],[902]⟩,⟨.e,902,[],[0],[]⟩,⟨.e,903,[],[0,1,2],[]⟩]),
 (25,5,0,[⟨.r,0,[],[],[]⟩,⟨.r,0,[],[],[]⟩,⟨.n,0,[],[1],[]⟩,⟨.e,903,[],[0,1,2],[]⟩,⟨.e,904,[],[0,1,2,3],[]⟩]),
 (9,4,0,[⟨.r,0,[],[],[]⟩,⟨.r,0,[],[],[902]⟩,⟨.e,902,[],[0],[]⟩,⟨.e,903,[],[0,1,2],[]⟩])]
theorem cx {nat:qo} {mH:FuncId→List V→Option V} (Eb:qR aj mH) (ub:mM aj nat) (n:Nat) {f:FuncId} {vs:List V} {r:V} (h:CY aj tt (ev aj tt Qh nat mH noM n) f vs=some r):bJ aj f vs r:=W9 tt_ok cB fS Eb Zt ub n h
theorem Qi {nat:qo} {mH:FuncId→List V→Option V} {tE:lA} (Eb:qR aj mH) (Qd:kg aj tE) (ub:mM aj nat) (n:Nat) {f:FuncId} {vs:List V} {r:V} (h:CY aj tt (ev aj tt Qh nat mH tE n) f vs=some r):bJ aj f vs r:=W9 tt_ok cB fS Eb Qd ub n h
theorem r8 {nat:qo} {mH:FuncId→List V→Option V} {tE:lA} (Eb:qR aj mH) (Qd:kg aj tE) (ub:mM aj nat) (n:Nat) {f:FuncId} {vs:List V} {mem:List bf} {outs:List (V×List bf)} (h:US aj tt (ev aj tt Qh nat mH tE n) f vs mem=some outs):jh aj f vs mem fun r m=>(r,m)∈outs:=Zu tt_ok cB fS Eb Qd ub n h
noncomputable def aeL:qo:=fun f vs=>if f=300 then I9 vs else YX aj f vs
theorem cj (hG:ba.g=some 0):mM aj aeL:=fun f vs r h=>by
 unfold aeL at h;split at h;·rename_i hf;subst hf;exact M0 (fn:=Tryz.f300) (by kernel_rfl) (by kernel_rfl) (by kernel_rfl) (by kernel_rfl) (by kernel_rfl) (fun w=>by simp only [globalAddr,program,Sem.run_bind];show (match aj.globals.findIdx? (fun x=>x.name == "internal/bytealg.MaxLen") with|some g=>_|none=>_:Sem Addr).run aj w=_;rw [show aj.globals.findIdx? (fun x=>x.name == "internal/bytealg.MaxLen")=some 0 from by kernel_rfl];rfl) hG h
 exact Ur h
end Go.Proofs.YtfbbfmcggbapoaaGreatDoor
end
