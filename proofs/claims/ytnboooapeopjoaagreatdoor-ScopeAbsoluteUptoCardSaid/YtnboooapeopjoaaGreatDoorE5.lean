import Derived.Test.YtnboooapeopjoaaGreatDoorE4
import Derived.Test.YtnboooapeopjoaaGreatDoorProg
import Derived.KernelRfl
open Go.Proofs.Tryz renaming prog→af
set_option linter.all false
section
namespace Go.Proofs.YtnboooapeopjoaaGreatDoor
open Go.Eng
variable [bg]
set_option maxHeartbeats 4000000
set_option maxRecDepth 100000
abbrev pN:Pl:=⟨.n,0,[],[],[]⟩
def cj:Ti := { size:=1,agg:=false,zero:=[.nilFunc],bytes:=8 }
def D9:Ti := { size:=1,agg:=false,zero:=[.pointer none],bytes:=8 }
def Ua:Ti := { size:=1,agg:=false,zero:=[.int .i64 0],bytes:=8 }
def Ub:Ti := { size:=1,agg:=false,zero:=[.int .u8 0],bytes:=1 }
def Uc:Ti := { size:=1,agg:=false,zero:=[.int .u64 0],bytes:=8 }
def Ud:Ti := { size:=2,agg:=true,zero:=[.string ⟨#[]⟩,.string ⟨#[]⟩],bD:=[(0,1),(1,1)],bytes:=32 }
def Yw:Ti := { size:=1,agg:=false,zero:=[.string ⟨#[]⟩],bytes:=16 }
def Yx:Ti := { size:=1,agg:=false,zero:=[.int .i32 0],bytes:=4 }
def Yy:Ti := { size:=1,agg:=false,zero:=[.map none],bytes:=8 }
def Yz:Ti := { size:=0,agg:=true,zero:=[],bytes:=0 }
def Wp:Ti := { size:=4,agg:=true,zero:=[.int .i64 0,.int .i64 0,.bool false,.int .u8 0],bD:=[(0,1),(1,1),(2,1),(3,1)],bytes:=24 }
def Wq:Ti := { size:=2,agg:=true,zero:=[.string ⟨#[]⟩,.int .u64 0],bD:=[(0,1),(1,1)],bytes:=24 }
def Wr:Ti := { size:=1,agg:=true,zero:=[.pointer none],bD:=[(0,1)],bytes:=8 }
def Ws:Ti := { size:=3,agg:=true,zero:=[.string ⟨#[]⟩,.slice none 0 0,.slice none 0 0],bD:=[(0,1),(1,1),(2,1)],bytes:=64 }
def Wt:Ti := { size:=5,agg:=true,zero:=[.int .i64 0,.string ⟨#[]⟩,.string ⟨#[]⟩,.slice none 0 0,.slice none 0 0],bD:=[(0,1),(1,1),(2,1),(3,1),(4,1)],bytes:=88 }
def Wu:Ti := { size:=8,agg:=true,zero:=[.int .i64 0,.string ⟨#[]⟩,.string ⟨#[]⟩,.string ⟨#[]⟩,.int .i64 0,.slice none 0 0,.slice none 0 0,.slice none 0 0],bD:=[(0,1),(1,1),(2,1),(3,1),(4,1),(5,1),(6,1),(7,1)],bytes:=136 }
def Wv:Ti := { size:=31,agg:=true,zero:=[.int .i64 0,.string ⟨#[]⟩,.bool false,.bool false,.string ⟨#[]⟩,.slice none 0 0,.int .i64 0,.string ⟨#[]⟩,.string ⟨#[]⟩,.slice none 0 0,.slice none 0 0,.int .i64 0,.string ⟨#[]⟩,.string ⟨#[]⟩,.slice none 0 0,.slice none 0 0,.int .i64 0,.string ⟨#[]⟩,.string ⟨#[]⟩,.slice none 0 0,.slice none 0 0,.int .i64 0,.string ⟨#[]⟩,.string ⟨#[]⟩,.string ⟨#[]⟩,.int .i64 0,.slice none 0 0,.slice none 0 0,.slice none 0 0,.string ⟨#[]⟩,.string ⟨#[]⟩],bD:=[(0,1),(1,1),(2,1),(3,1),(4,1),(5,1),(6,5),(11,5),(16,5),(21,8),(29,1),(30,1)],bytes:=504 }
def Ww:Ti := { size:=7,agg:=true,zero:=[.string ⟨#[]⟩,.int .i64 0,.int .i64 0,.string ⟨#[]⟩,.string ⟨#[]⟩,.slice none 0 0,.slice none 0 0],bD:=[(0,1),(1,1),(2,5)],bytes:=112 }
def Wx:Ti := { size:=6,agg:=true,zero:=[.string ⟨#[]⟩,.slice none 0 0,.slice none 0 0,.int .i64 0,.slice none 0 0,.slice none 0 0],bD:=[(0,3),(3,1),(4,1),(5,1)],bytes:=120 }
def Wy:Ti := { size:=7,agg:=true,zero:=[.string ⟨#[]⟩,.int .i64 0,.string ⟨#[]⟩,.string ⟨#[]⟩,.slice none 0 0,.slice none 0 0,.bool false],bD:=[(0,1),(1,5),(6,1)],bytes:=112 }
def Wz:Ti := { size:=8,agg:=true,zero:=[.string ⟨#[]⟩,.string ⟨#[]⟩,.int .i64 0,.string ⟨#[]⟩,.string ⟨#[]⟩,.slice none 0 0,.slice none 0 0,.bool false],bD:=[(0,1),(1,1),(2,5),(7,1)],bytes:=128 }
def WA:Ti := { size:=4,agg:=true,zero:=[.slice none 0 0,.int .i64 0,.int .i64 0,.int .i64 0],bD:=[(0,1),(1,1),(2,1),(3,1)],bytes:=48 }
def WB:Ti := { size:=3,agg:=true,zero:=[.int .i64 0,.string ⟨#[]⟩,.int .i64 0],bD:=[(0,1),(1,1),(2,1)],bytes:=32 }
def WC:Ti := { size:=9,agg:=true,zero:=[.string ⟨#[]⟩,.slice none 0 0,.slice none 0 0,.int .i64 0,.slice none 0 0,.int .i64 0,.nilFunc,.nilFunc,.nilFunc],bD:=[(0,3),(3,1),(4,1),(5,1),(6,1),(7,1),(8,1)],bytes:=128 }
def WD:Ti := { size:=2,agg:=true,zero:=[.string ⟨#[]⟩,.pointer none],bD:=[(0,1),(1,1)],bytes:=24 }
def WE:Ti := { size:=4,agg:=true,zero:=[.string ⟨#[]⟩,.int .i64 0,.bool false,.int .i64 0],bD:=[(0,1),(1,1),(2,1),(3,1)],bytes:=40 }
def WG:Ti := { size:=9,agg:=true,zero:=[.bool false,.bool false,.bool false,.bool false,.bool false,.bool false,.bool false,.int .i64 0,.bool false],bD:=[(0,1),(1,1),(2,1),(3,1),(4,1),(5,1),(6,1),(7,1),(8,1)],bytes:=24 }
def WH:Ti := { size:=32,agg:=true,zero:=[.int .u8 0,.int .u8 0,.int .u8 0,.int .u8 0,.int .u8 0,.int .u8 0,.int .u8 0,.int .u8 0,.int .u8 0,.int .u8 0,.int .u8 0,.int .u8 0,.int .u8 0,.int .u8 0,.int .u8 0,.int .u8 0,.int .u8 0,.int .u8 0,.int .u8 0,.int .u8 0,.int .u8 0,.int .u8 0,.int .u8 0,.int .u8 0,.int .u8 0,.int .u8 0,.int .u8 0,.int .u8 0,.int .u8 0,.int .u8 0,.int .u8 0,.int .u8 0],bytes:=32 }
def WI:Ti := { size:=2,agg:=true,zero:=[.int .u8 0,.int .u8 0],bD:=[(0,1),(1,1)],bytes:=2 }
def WJ:Ti := { size:=4,agg:=true,zero:=[.pointer none,.pointer none,.pointer none,.string ⟨#[]⟩],bD:=[(0,1),(1,1),(2,1),(3,1)],bytes:=40 }
def WK:Ti := { size:=11,agg:=true,zero:=[.int .u64 0,.int .u64 0,.int .u32 0,.int .u8 0,.int .u8 0,.int .u8 0,.int .u8 0,.nilFunc,.pointer none,.int .i32 0,.int .i32 0],bD:=[(0,1),(1,1),(2,1),(3,1),(4,1),(5,1),(6,1),(7,1),(8,1),(9,1),(10,1)],bytes:=48 }
def tab:List (Nat×Ti):=[
 (1,cj),
 (2,Ua),
 (3,Ua),
 (4,{ size:=1,agg:=false,zero:=[.bool false],bytes:=1 }),
 (5,Ub),
 (6,Ub),
 (7,Wp),
 (8,Wp),
 (9,Yw),
 (10,Yw),
 (11,Yw),
 (12,Uc),
 (13,Wq),
 (14,Wq),
 (15,D9),
 (16,D9),
 (17,D9),
 (18,Wr),
 (19,Wr),
 (20,{ size:=1,agg:=false,zero:=[.nilIface],bytes:=16 }),
 (21,Yx),
 (22,{ size:=1,agg:=false,zero:=[.slice none 0 0],elem:=some 35,bytes:=24 }),
 (23,{ size:=1,agg:=false,zero:=[.slice none 0 0],elem:=some 47,bytes:=24 }),
 (24,Ws),
 (25,Ws),
 (26,cj),
 (27,cj),
 (28,Ua),
 (30,cj),
 (31,cj),
 (32,cj),
 (33,cj),
 (34,Ud),
 (35,Ud),
 (36,{ size:=1,agg:=false,zero:=[.slice none 0 0],elem:=some 9,bytes:=24 }),
 (37,{ size:=1,agg:=false,zero:=[.slice none 0 0],elem:=some 49,bytes:=24 }),
 (38,{ size:=1,agg:=false,zero:=[.slice none 0 0],elem:=some 41,bytes:=24 }),
 (39,{ size:=1,agg:=false,zero:=[.slice none 0 0],elem:=some 94,bytes:=24 }),
 (40,Wt),
 (41,Wt),
 (42,{ size:=1,agg:=false,zero:=[.slice none 0 0],elem:=some 97,bytes:=24 }),
 (43,{ size:=1,agg:=false,zero:=[.slice none 0 0],elem:=some 45,bytes:=24 }),
 (44,Wu),
 (45,Wu),
 (46,Wv),
 (47,Wv),
 (48,Ww),
 (49,Ww),
 (50,cj),
 (51,cj),
 (52,cj),
 (53,cj),
 (54,cj),
 (55,cj),
 (56,cj),
 (57,cj),
 (58,cj),
 (59,cj),
 (60,cj),
 (61,cj),
 (62,cj),
 (63,cj),
 (64,cj),
 (65,cj),
 (67,cj),
 (68,cj),
 (69,D9),
 (70,cj),
 (72,cj),
 (73,cj),
 (74,Wx),
 (75,Wx),
 (76,cj),
 (77,{ size:=1,agg:=false,zero:=[.slice none 0 0],elem:=some 80,bytes:=24 }),
 (78,cj),
 (79,Ud),
 (80,Ud),
 (81,cj),
 (82,cj),
 (83,cj),
 (84,cj),
 (85,cj),
 (86,cj),
 (87,cj),
 (88,cj),
 (89,cj),
 (90,cj),
 (91,cj),
 (92,cj),
 (93,Wy),
 (94,Wy),
 (95,cj),
 (96,Wz),
 (97,Wz),
 (98,cj),
 (99,cj),
 (100,cj),
 (101,cj),
 (102,{ size:=1,agg:=false,zero:=[.slice none 0 0],elem:=some 116,bytes:=24 }),
 (103,WA),
 (104,WA),
 (105,cj),
 (106,{ size:=1,agg:=false,zero:=[.slice none 0 0],elem:=some 3,bytes:=24 }),
 (108,cj),
 (109,cj),
 (110,cj),
 (111,cj),
 (113,cj),
 (114,cj),
 (115,WB),
 (116,WB),
 (118,cj),
 (119,cj),
 (120,cj),
 (121,cj),
 (122,cj),
 (123,cj),
 (124,cj),
 (125,cj),
 (126,cj),
 (127,cj),
 (128,Yy),
 (130,cj),
 (131,cj),
 (132,cj),
 (133,cj),
 (134,WC),
 (135,WC),
 (136,cj),
 (137,cj),
 (138,cj),
 (140,cj),
 (142,cj),
 (144,cj),
 (145,cj),
 (146,cj),
 (147,cj),
 (148,cj),
 (149,cj),
 (150,cj),
 (151,cj),
 (152,cj),
 (153,cj),
 (155,cj),
 (156,cj),
 (157,cj),
 (159,cj),
 (161,cj),
 (163,cj),
 (164,Yy),
 (165,cj),
 (166,cj),
 (167,cj),
 (168,cj),
 (169,cj),
 (170,D9),
 (171,cj),
 (172,cj),
 (173,cj),
 (174,cj),
 (175,cj),
 (176,cj),
 (177,cj),
 (178,{ size:=1,agg:=false,zero:=[.slice none 0 0],elem:=some 5,bytes:=24 }),
 (179,cj),
 (181,cj),
 (183,cj),
 (185,cj),
 (187,cj),
 (188,cj),
 (189,cj),
 (190,cj),
 (191,cj),
 (192,cj),
 (193,cj),
 (194,cj),
 (195,cj),
 (196,cj),
 (197,cj),
 (198,Yy),
 (199,cj),
 (200,cj),
 (201,cj),
 (202,cj),
 (203,cj),
 (204,cj),
 (206,cj),
 (207,WD),
 (208,WD),
 (209,cj),
 (210,cj),
 (211,cj),
 (212,cj),
 (213,cj),
 (214,cj),
 (215,cj),
 (216,cj),
 (217,cj),
 (218,cj),
 (219,Uc),
 (220,cj),
 (221,cj),
 (222,cj),
 (223,cj),
 (224,cj),
 (225,cj),
 (226,cj),
 (227,cj),
 (228,cj),
 (229,cj),
 (230,cj),
 (231,cj),
 (232,cj),
 (233,WE),
 (234,WE),
 (236,cj),
 (237,cj),
 (238,cj),
 (239,cj),
 (240,cj),
 (242,cj),
 (243,cj),
 (244,cj),
 (245,Ua),
 (247,cj),
 (248,cj),
 (249,cj),
 (250,cj),
 (251,cj),
 (252,{ size:=1,agg:=false,zero:=[.int .u32 0],bytes:=4 }),
 (253,cj),
 (254,Uc),
 (255,{ size:=24,agg:=true,zero:=[.int .u8 0,.int .u8 0,.int .u8 0,.int .u8 0,.int .u8 0,.int .u8 0,.int .u8 0,.int .u8 0,.int .u8 0,.int .u8 0,.int .u8 0,.int .u8 0,.int .u8 0,.int .u8 0,.int .u8 0,.int .u8 0,.int .u8 0,.int .u8 0,.int .u8 0,.int .u8 0,.int .u8 0,.int .u8 0,.int .u8 0,.int .u8 0],bytes:=24 }),
 (256,cj),
 (258,cj),
 (259,cj),
 (260,cj),
 (261,cj),
 (262,cj),
 (263,cj),
 (264,cj),
 (265,cj),
 (266,WG),
 (267,WG),
 (269,cj),
 (270,cj),
 (271,cj),
 (272,cj),
 (273,cj),
 (274,Uc),
 (275,cj),
 (276,cj),
 (277,cj),
 (278,D9),
 (279,cj),
 (280,cj),
 (281,cj),
 (282,{ size:=20,agg:=true,zero:=[.int .u64 0,.int .u64 0,.int .u64 0,.int .u64 0,.int .u64 0,.int .u64 0,.int .u64 0,.int .u64 0,.int .u64 0,.int .u64 0,.int .u64 0,.int .u64 0,.int .u64 0,.int .u64 0,.int .u64 0,.int .u64 0,.int .u64 0,.int .u64 0,.int .u64 0,.int .u64 0],bytes:=160 }),
 (283,{ size:=65,agg:=true,zero:=[.int .u8 0,.int .u8 0,.int .u8 0,.int .u8 0,.int .u8 0,.int .u8 0,.int .u8 0,.int .u8 0,.int .u8 0,.int .u8 0,.int .u8 0,.int .u8 0,.int .u8 0,.int .u8 0,.int .u8 0,.int .u8 0,.int .u8 0,.int .u8 0,.int .u8 0,.int .u8 0,.int .u8 0,.int .u8 0,.int .u8 0,.int .u8 0,.int .u8 0,.int .u8 0,.int .u8 0,.int .u8 0,.int .u8 0,.int .u8 0,.int .u8 0,.int .u8 0,.int .u8 0,.int .u8 0,.int .u8 0,.int .u8 0,.int .u8 0,.int .u8 0,.int .u8 0,.int .u8 0,.int .u8 0,.int .u8 0,.int .u8 0,.int .u8 0,.int .u8 0,.int .u8 0,.int .u8 0,.int .u8 0,.int .u8 0,.int .u8 0,.int .u8 0,.int .u8 0,.int .u8 0,.int .u8 0,.int .u8 0,.int .u8 0,.int .u8 0,.int .u8 0,.int .u8 0,.int .u8 0,.int .u8 0,.int .u8 0,.int .u8 0,.int .u8 0,.int .u8 0],bytes:=65 }),
 (284,cj),
 (285,cj),
 (287,cj),
 (288,cj),
 (289,cj),
 (290,D9),
 (292,cj),
 (293,WH),
 (294,{ size:=64,agg:=true,zero:=[.int .u8 0,.int .u8 0,.int .u8 0,.int .u8 0,.int .u8 0,.int .u8 0,.int .u8 0,.int .u8 0,.int .u8 0,.int .u8 0,.int .u8 0,.int .u8 0,.int .u8 0,.int .u8 0,.int .u8 0,.int .u8 0,.int .u8 0,.int .u8 0,.int .u8 0,.int .u8 0,.int .u8 0,.int .u8 0,.int .u8 0,.int .u8 0,.int .u8 0,.int .u8 0,.int .u8 0,.int .u8 0,.int .u8 0,.int .u8 0,.int .u8 0,.int .u8 0,.int .u8 0,.int .u8 0,.int .u8 0,.int .u8 0,.int .u8 0,.int .u8 0,.int .u8 0,.int .u8 0,.int .u8 0,.int .u8 0,.int .u8 0,.int .u8 0,.int .u8 0,.int .u8 0,.int .u8 0,.int .u8 0,.int .u8 0,.int .u8 0,.int .u8 0,.int .u8 0,.int .u8 0,.int .u8 0,.int .u8 0,.int .u8 0,.int .u8 0,.int .u8 0,.int .u8 0,.int .u8 0,.int .u8 0,.int .u8 0,.int .u8 0,.int .u8 0],bytes:=64 }),
 (296,cj),
 (298,WI),
 (299,WI),
 (300,WH),
 (301,cj),
 (302,WJ),
 (303,WJ),
 (304,Yz),
 (305,Yz),
 (306,Yz),
 (307,cj),
 (308,Ub),
 (309,Ub),
 (310,cj),
 (311,D9),
 (312,Yx),
 (313,Yx),
 (314,WK),
 (315,WK),
 (316,D9)]
def tt:Table:=sD tab
theorem tt_ok:TT af tt:=tt_of (P:=af) (l:=tab) (by kernel_rfl)
theorem cy:af.follows .mixedOrders=true:=by kernel_rfl

theorem tt3:tt 3=some { size:=1,agg:=false,zero:=[.int .i64 0],bytes:=8 }:=by kernel_rfl
theorem tt4:tt 4=some { size:=1,agg:=false,zero:=[.bool false],bytes:=1 }:=by kernel_rfl
theorem tt5:tt 5=some { size:=1,agg:=false,zero:=[.int .u8 0],bytes:=1 }:=by kernel_rfl
theorem tt9:tt 9=some { size:=1,agg:=false,zero:=[.string ⟨#[]⟩],bytes:=16 }:=by kernel_rfl
theorem ah3:tt 22=some { size:=1,agg:=false,zero:=[.slice none 0 0],elem:=some 35,bytes:=24 }:=by kernel_rfl
theorem ah4:tt 23=some { size:=1,agg:=false,zero:=[.slice none 0 0],elem:=some 47,bytes:=24 }:=by kernel_rfl
theorem ah5:tt 25=some { size:=3,agg:=true,zero:=[.string ⟨#[]⟩,.slice none 0 0,.slice none 0 0],bD:=[(0,1),(1,1),(2,1)],bytes:=64 }:=by kernel_rfl
theorem ah6:tt 28=some { size:=1,agg:=false,zero:=[.int .i64 0],bytes:=8 }:=by kernel_rfl
theorem ah7:tt 35=some { size:=2,agg:=true,zero:=[.string ⟨#[]⟩,.string ⟨#[]⟩],bD:=[(0,1),(1,1)],bytes:=32 }:=by kernel_rfl
theorem ah8:tt 36=some { size:=1,agg:=false,zero:=[.slice none 0 0],elem:=some 9,bytes:=24 }:=by kernel_rfl
theorem ah9:tt 37=some { size:=1,agg:=false,zero:=[.slice none 0 0],elem:=some 49,bytes:=24 }:=by kernel_rfl
theorem aia:tt 38=some { size:=1,agg:=false,zero:=[.slice none 0 0],elem:=some 41,bytes:=24 }:=by kernel_rfl
theorem aib:tt 39=some { size:=1,agg:=false,zero:=[.slice none 0 0],elem:=some 94,bytes:=24 }:=by kernel_rfl
theorem aic:tt 41=some { size:=5,agg:=true,zero:=[.int .i64 0,.string ⟨#[]⟩,.string ⟨#[]⟩,.slice none 0 0,.slice none 0 0],bD:=[(0,1),(1,1),(2,1),(3,1),(4,1)],bytes:=88 }:=by kernel_rfl
theorem aid:tt 42=some { size:=1,agg:=false,zero:=[.slice none 0 0],elem:=some 97,bytes:=24 }:=by kernel_rfl
theorem aie:tt 43=some { size:=1,agg:=false,zero:=[.slice none 0 0],elem:=some 45,bytes:=24 }:=by kernel_rfl
theorem aif:tt 45=some { size:=8,agg:=true,zero:=[.int .i64 0,.string ⟨#[]⟩,.string ⟨#[]⟩,.string ⟨#[]⟩,.int .i64 0,.slice none 0 0,.slice none 0 0,.slice none 0 0],bD:=[(0,1),(1,1),(2,1),(3,1),(4,1),(5,1),(6,1),(7,1)],bytes:=136 }:=by kernel_rfl
theorem aih:tt 47=some { size:=31,agg:=true,zero:=[.int .i64 0,.string ⟨#[]⟩,.bool false,.bool false,.string ⟨#[]⟩,.slice none 0 0,.int .i64 0,.string ⟨#[]⟩,.string ⟨#[]⟩,.slice none 0 0,.slice none 0 0,.int .i64 0,.string ⟨#[]⟩,.string ⟨#[]⟩,.slice none 0 0,.slice none 0 0,.int .i64 0,.string ⟨#[]⟩,.string ⟨#[]⟩,.slice none 0 0,.slice none 0 0,.int .i64 0,.string ⟨#[]⟩,.string ⟨#[]⟩,.string ⟨#[]⟩,.int .i64 0,.slice none 0 0,.slice none 0 0,.slice none 0 0,.string ⟨#[]⟩,.string ⟨#[]⟩],bD:=[(0,1),(1,1),(2,1),(3,1),(4,1),(5,1),(6,5),(11,5),(16,5),(21,8),(29,1),(30,1)],bytes:=504 }:=by kernel_rfl
theorem aii:tt 49=some { size:=7,agg:=true,zero:=[.string ⟨#[]⟩,.int .i64 0,.int .i64 0,.string ⟨#[]⟩,.string ⟨#[]⟩,.slice none 0 0,.slice none 0 0],bD:=[(0,1),(1,1),(2,5)],bytes:=112 }:=by kernel_rfl
theorem aij:tt 52=some { size:=1,agg:=false,zero:=[.nilFunc],bytes:=8 }:=by kernel_rfl
theorem aik:tt 77=some { size:=1,agg:=false,zero:=[.slice none 0 0],elem:=some 80,bytes:=24 }:=by kernel_rfl
theorem ail:tt 80=some { size:=2,agg:=true,zero:=[.string ⟨#[]⟩,.string ⟨#[]⟩],bD:=[(0,1),(1,1)],bytes:=32 }:=by kernel_rfl
theorem aim:tt 89=some { size:=1,agg:=false,zero:=[.nilFunc],bytes:=8 }:=by kernel_rfl
theorem ain:tt 94=some { size:=7,agg:=true,zero:=[.string ⟨#[]⟩,.int .i64 0,.string ⟨#[]⟩,.string ⟨#[]⟩,.slice none 0 0,.slice none 0 0,.bool false],bD:=[(0,1),(1,5),(6,1)],bytes:=112 }:=by kernel_rfl
theorem aio:tt 97=some { size:=8,agg:=true,zero:=[.string ⟨#[]⟩,.string ⟨#[]⟩,.int .i64 0,.string ⟨#[]⟩,.string ⟨#[]⟩,.slice none 0 0,.slice none 0 0,.bool false],bD:=[(0,1),(1,1),(2,5),(7,1)],bytes:=128 }:=by kernel_rfl
theorem acn:tt 102=some { size:=1,agg:=false,zero:=[.slice none 0 0],elem:=some 116,bytes:=24 }:=by kernel_rfl
theorem aco:tt 116=some { size:=3,agg:=true,zero:=[.int .i64 0,.string ⟨#[]⟩,.int .i64 0],bD:=[(0,1),(1,1),(2,1)],bytes:=32 }:=by kernel_rfl
theorem acp:tt 127=some { size:=1,agg:=false,zero:=[.nilFunc],bytes:=8 }:=by kernel_rfl
theorem acq:tt 128=some { size:=1,agg:=false,zero:=[.map none],bytes:=8 }:=by kernel_rfl
theorem acr:tt 131=some { size:=1,agg:=false,zero:=[.nilFunc],bytes:=8 }:=by kernel_rfl
theorem acs:tt 132=some { size:=1,agg:=false,zero:=[.nilFunc],bytes:=8 }:=by kernel_rfl
theorem acu:tt 133=some { size:=1,agg:=false,zero:=[.nilFunc],bytes:=8 }:=by kernel_rfl
theorem acv:tt 135=some { size:=9,agg:=true,zero:=[.string ⟨#[]⟩,.slice none 0 0,.slice none 0 0,.int .i64 0,.slice none 0 0,.int .i64 0,.nilFunc,.nilFunc,.nilFunc],bD:=[(0,3),(3,1),(4,1),(5,1),(6,1),(7,1),(8,1)],bytes:=128 }:=by kernel_rfl
theorem acw:tt 170=some { size:=1,agg:=false,zero:=[.pointer none],bytes:=8 }:=by kernel_rfl
theorem acx:tt 178=some { size:=1,agg:=false,zero:=[.slice none 0 0],elem:=some 5,bytes:=24 }:=by kernel_rfl
theorem acy:tt 198=some { size:=1,agg:=false,zero:=[.map none],bytes:=8 }:=by kernel_rfl
theorem acz:tt 208=some { size:=2,agg:=true,zero:=[.string ⟨#[]⟩,.pointer none],bD:=[(0,1),(1,1)],bytes:=24 }:=by kernel_rfl
theorem Am:tt 234=some { size:=4,agg:=true,zero:=[.string ⟨#[]⟩,.int .i64 0,.bool false,.int .i64 0],bD:=[(0,1),(1,1),(2,1),(3,1)],bytes:=40 }:=by kernel_rfl
theorem gI (f:FuncId) (fn:Func) (body:Code) (hf:af.funcs[f]?=some fn) (hb:fn.body=some body) (xs:Array Value) (w:World):(callFunc f xs).run af w = .ok (.enter f xs) w:=O8 (by kernel_rfl) f fn body hf hb xs w
def CN:F7:=Yv [
 (3,10,4,[pN,⟨.r,0,[],[0],[]⟩,⟨.a,0,[],[0,1],[]⟩,pN,⟨.r,0,[0],[3],[]⟩,⟨.a,1,[],[0,1,2,3,4],[]⟩,⟨.n,0,[],[0,1,2,3,4],[]⟩,⟨.w,2,[],[0,1,2,3,4,5,6],[]⟩,⟨.n,0,[],[0,1,2,3,4,5,6,7],[]⟩,⟨.w,3,[],[0,1,2,3,4,5,6,7,8],[]⟩]),
 (3,15,6,[pN,⟨.r,0,[],[0],[]⟩,⟨.a,0,[],[0,1],[]⟩,pN,⟨.r,0,[0],[3],[]⟩,⟨.a,1,[],[0,1,2,3,4],[]⟩,pN,⟨.r,0,[0,1],[6],[]⟩,⟨.a,2,[],[0,1,2,3,4,5,6,7],[]⟩,⟨.n,0,[],[0,1,2,3,4,6,7],[]⟩,⟨.w,3,[],[0,1,2,3,4,5,6,7,8,9],[]⟩,⟨.n,0,[],[0,1,2,3,4,5,6,7,8,9,10],[]⟩,⟨.w,4,[],[0,1,2,3,4,5,6,7,8,9,10,11],[]⟩,⟨.n,0,[],[0,1,2,3,4,5,6,7,8,9,10,11,12],[]⟩,⟨.w,5,[],[0,1,2,3,4,5,6,7,8,9,10,11,12,13],[]⟩]),
 (12,10,0,[pN,pN,⟨.r,0,[],[],[]⟩,pN,pN,pN,⟨.r,0,[],[],[]⟩,pN,pN,pN]),
 (16,10,0,[pN,pN,⟨.r,0,[],[],[]⟩,pN,pN,pN,⟨.r,0,[],[],[]⟩,pN,pN,pN]),
 (7,7,1,[pN,⟨.r,0,[0],[],[]⟩,⟨.r,0,[0],[],[]⟩,pN,pN,⟨.a,0,[],[],[]⟩,⟨.s,0,[],[],[]⟩]),
 (7,7,0,[⟨.r,0,[],[],[]⟩,pN,⟨.r,0,[],[1],[]⟩,pN,⟨.r,0,[],[1,2,3],[]⟩,⟨.z,0,[],[0,1,2,3,4],[]⟩,⟨.n,0,[],[0,1,2,3,4,5],[]⟩]),
 (9,10,1,[pN,⟨.r,0,[],[0],[99]⟩,pN,pN,pN,⟨.r,0,[],[4],[]⟩,⟨.e,99,[],[3,4,5],[]⟩,⟨.r,0,[],[0,1,2,3,4,5,6],[]⟩,⟨.n,0,[],[0,1,2,3,4,5,6,7],[]⟩,⟨.w,0,[],[0,1,2,3,4,5,6,7,8],[]⟩]),
 (10,12,2,[pN,pN,⟨.n,0,[],[1],[]⟩,⟨.n,0,[],[1,2],[]⟩,⟨.r,0,[],[1,2,3],[]⟩,pN,⟨.r,0,[],[5],[]⟩,⟨.n,0,[],[5,6],[]⟩,⟨.w,0,[],[1,2,3,4,5,6,7],[]⟩,⟨.n,0,[],[0,1,2,3,4,5,6,7,8],[]⟩,⟨.n,0,[],[0,1,2,3,4,5,6,7,8,9],[]⟩,⟨.w,1,[],[0,1,2,3,4,5,6,7,8,9,10],[]⟩]),
 (12,18,3,[pN,pN,⟨.r,0,[],[1],[]⟩,⟨.e,99,[],[0,1,2],[]⟩,pN,pN,⟨.r,0,[],[5],[99]⟩,⟨.e,99,[],[0,1,2,3,4,5,6],[]⟩,pN,pN,⟨.r,0,[],[9],[99]⟩,⟨.e,99,[],[0,1,2,3,4,5,6,7,8,9,10],[]⟩,⟨.n,0,[],[0,1,2,3,5,6,9,10],[]⟩,⟨.w,0,[],[0,1,2,3,4,5,6,7,8,9,10,11,12],[]⟩,⟨.n,0,[],[0,1,2,3,4,5,6,7,8,9,10,11,12,13],[]⟩,⟨.w,1,[],[0,1,2,3,4,5,6,7,8,9,10,11,12,13,14],[]⟩,⟨.n,0,[],[0,1,2,3,4,5,6,7,8,9,10,11,12,13,14,15],[]⟩,⟨.w,2,[],[0,1,2,3,4,5,6,7,8,9,10,11,12,13,14,15,16],[]⟩]),
 (14,7,0,[⟨.r,0,[],[],[]⟩,pN,⟨.n,0,[],[1],[]⟩,⟨.n,0,[],[1,2],[]⟩,⟨.r,0,[],[1,2,3],[905]⟩,⟨.e,905,[],[0],[]⟩,⟨.n,0,[],[0,1,2,3,4,5],[]⟩]),
 (4,7,0,[pN,⟨.n,0,[],[0],[]⟩,pN,⟨.n,0,[],[0,1,2],[]⟩,⟨.r,0,[],[],[]⟩,⟨.n,0,[],[0,1,2,3],[]⟩,⟨.e,906,[],[0,1,2,3,4,5],[]⟩]),
 (7,4,0,[pN,⟨.r,0,[],[],[]⟩,⟨.n,0,[],[0],[]⟩,⟨.e,903,[],[0,1,2],[]⟩]),
 (4,9,0,[pN,⟨.r,0,[],[0],[]⟩,pN,⟨.r,0,[],[2],[]⟩,⟨.r,0,[],[],[]⟩,⟨.n,0,[],[4],[]⟩,⟨.n,0,[],[0,1,4,5],[]⟩,⟨.n,0,[],[0,1,2,3,4,5,6],[]⟩,⟨.e,908,[],[0,1,2,3,4,5,6,7],[]⟩]),
 (9,8,0,[⟨.r,0,[],[],[]⟩,⟨.r,0,[],[],[]⟩,⟨.n,0,[],[1],[]⟩,⟨.n,0,[],[0,1,2],[]⟩,⟨.n,0,[],[0,1,2,3],[]⟩,⟨.n,0,[],[0,1,2,3],[]⟩,⟨.e,906,[],[0,1,2,3,4,5],[]⟩,⟨.e,907,[],[0,1,2,3,4,5,6],[]⟩]),
 (16,4,0,[⟨.r,0,[],[],[]⟩,⟨.r,0,[],[],[902]⟩,⟨.e,902,[],[0],[]⟩,⟨.e,903,[],[0,1,2],[]⟩]),
 (5,10,1,[pN,⟨.n,0,[],[0],[]⟩,⟨.n,0,[],[0,1],[]⟩,⟨.r,0,[],[0,1,2],[]⟩,pN,pN,⟨.r,0,[],[5],[]⟩,⟨.e,99,[],[0,1,2,3,4,5,6],[]⟩,⟨.n,0,[],[0,1,2,3,4,5,6,7],[]⟩,⟨.w,0,[],[0,1,2,3,4,5,6,7,8],[]⟩]),
 (6,8,0,[pN,⟨.n,0,[],[0],[]⟩,⟨.n,0,[],[0,1],[]⟩,⟨.r,0,[],[0,1,2],[]⟩,pN,⟨.r,0,[],[4],[]⟩,⟨.z,0,[],[0,1,2,3,4,5],[]⟩,⟨.n,0,[],[0,1,2,3,4,5,6],[]⟩]),
 (2,10,1,[pN,⟨.n,0,[],[0],[]⟩,⟨.n,0,[],[0,1],[]⟩,⟨.r,0,[],[0,1,2],[]⟩,pN,pN,⟨.r,0,[],[5],[]⟩,⟨.e,99,[],[0,1,2,3,4,5,6],[]⟩,⟨.n,0,[],[0,1,2,3,4,5,6,7],[]⟩,⟨.w,0,[],[0,1,2,3,4,5,6,7,8],[]⟩]),
 (9,9,0,[pN,⟨.n,0,[],[0],[]⟩,⟨.n,0,[],[0,1],[]⟩,⟨.n,0,[],[0,1,2],[]⟩,⟨.r,0,[],[0,1,2,3],[906]⟩,pN,⟨.e,906,[],[5],[]⟩,⟨.n,0,[],[0,1,2,3,4,5,6],[]⟩,⟨.e,908,[],[0,1,2,3,4,5,6,7],[]⟩]),
 (2,8,1,[pN,⟨.n,0,[],[0],[]⟩,⟨.n,0,[],[0,1],[]⟩,⟨.r,0,[],[0,1,2],[]⟩,pN,⟨.r,0,[],[],[]⟩,⟨.e,99,[],[0,1,2,3,4,5],[]⟩,⟨.w,0,[],[0,1,2,3,4,5,6],[]⟩]),
 (7,8,1,[pN,⟨.r,0,[],[0],[99]⟩,pN,pN,⟨.r,0,[],[],[]⟩,⟨.e,99,[],[3,4],[]⟩,⟨.r,0,[],[0,1,2,3,4,5],[]⟩,⟨.w,0,[],[0,1,2,3,4,5,6],[]⟩]),
 (2,9,1,[pN,⟨.n,0,[],[0],[]⟩,⟨.n,0,[],[0,1],[]⟩,⟨.r,0,[],[0,1,2],[]⟩,pN,pN,⟨.r,0,[],[],[]⟩,⟨.e,99,[],[0,1,2,3,4,5,6],[]⟩,⟨.w,0,[],[0,1,2,3,4,5,6,7],[]⟩]),
 (18,12,1,[pN,⟨.r,0,[],[0],[99]⟩,pN,pN,⟨.r,0,[],[],[]⟩,pN,pN,⟨.e,99,[],[4,5,6],[]⟩,⟨.r,0,[],[],[99]⟩,⟨.e,99,[],[3,4,5,6,7,8],[]⟩,⟨.r,0,[],[0,1,2,3,4,5,6,7,8,9],[]⟩,⟨.w,0,[],[0,1,2,3,4,5,6,7,8,9,10],[]⟩]),
 (11,9,0,[pN,⟨.r,0,[],[],[]⟩,pN,⟨.r,0,[],[],[]⟩,pN,⟨.r,0,[],[],[]⟩,pN,⟨.r,0,[],[],[]⟩,pN]),
 (7,18,1,[pN,pN,pN,pN,pN,pN,pN,pN,⟨.r,0,[],[],[]⟩,⟨.r,0,[],[],[]⟩,pN,pN,pN,pN,pN,pN,⟨.r,0,[],[],[]⟩,⟨.w,0,[],[],[]⟩]),
 (14,4,0,[⟨.r,0,[],[],[]⟩,⟨.r,0,[],[],[902]⟩,⟨.e,902,[],[0],[]⟩,⟨.e,903,[],[0,1,2],[]⟩]),
 (2,3,0,[⟨.r,0,[],[],[]⟩,pN,⟨.e,902,[],[0,1],[]⟩]),
 (5,6,0,[⟨.r,0,[],[],[]⟩,pN,pN,⟨.r,0,[],[1,2],[]⟩,⟨.r,0,[],[1,2,3],[]⟩,⟨.z,0,[],[0,1,2,3,4],[]⟩]),
 (9,6,0,[⟨.r,0,[],[],[]⟩,⟨.n,0,[],[0],[]⟩,⟨.n,0,[],[0,1],[]⟩,⟨.r,0,[],[],[904]⟩,⟨.e,904,[],[0,1,2],[]⟩,⟨.e,905,[],[0,1,2,3,4],[]⟩]),
 (26,4,0,[⟨.r,0,[],[],[]⟩,⟨.r,0,[],[],[902]⟩,⟨.e,902,[],[0],[]⟩,⟨.e,903,[],[0,1,2],[]⟩]),
 (5,8,0,[pN,⟨.r,0,[],[],[]⟩,⟨.r,0,[],[],[]⟩,⟨.n,0,[],[1,2],[]⟩,⟨.n,0,[],[0,1,2,3],[]⟩,⟨.r,0,[],[],[906]⟩,⟨.e,906,[],[0,1,2,3,4],[]⟩,⟨.e,907,[],[0,1,2,3,4,5,6],[]⟩]),
 (3,8,0,[⟨.r,0,[],[],[905]⟩,pN,⟨.r,0,[],[1],[]⟩,⟨.r,0,[],[0,1,2],[905]⟩,⟨.n,0,[],[1,2],[]⟩,⟨.e,905,[],[1,2,4],[]⟩,⟨.n,0,[],[0,1,2,3,4,5],[]⟩,⟨.e,907,[],[0,1,2,3,4,5,6],[]⟩]),
 (6,10,0,[pN,pN,⟨.r,0,[],[0,1],[]⟩,⟨.r,0,[],[0,1,2],[]⟩,pN,pN,⟨.r,0,[],[4,5],[]⟩,⟨.r,0,[],[4,5,6],[]⟩,⟨.z,0,[],[0,1,2,3,4,5,6,7],[]⟩,⟨.n,0,[],[0,1,2,3,4,5,6,7,8],[]⟩]),
 (12,10,0,[pN,pN,⟨.r,0,[],[],[]⟩,pN,pN,⟨.r,0,[],[],[]⟩,pN,pN,pN,pN]),
 (10,5,0,[pN,pN,pN,⟨.r,0,[],[],[]⟩,pN]),
 (21,22,0,[pN,pN,pN,pN,⟨.r,0,[],[],[]⟩,⟨.r,0,[],[],[]⟩,pN,pN,pN,pN,pN,pN,⟨.r,0,[],[],[]⟩,⟨.r,0,[],[],[]⟩,pN,⟨.r,0,[],[],[]⟩,pN,pN,⟨.r,0,[],[],[]⟩,⟨.r,0,[],[],[]⟩,pN,pN]),
 (22,13,0,[pN,pN,⟨.r,0,[],[0,1],[]⟩,⟨.r,0,[],[0,1,2],[]⟩,⟨.n,0,[],[0,1,2,3],[]⟩,pN,pN,⟨.r,0,[],[5,6],[910]⟩,⟨.r,0,[],[5,6,7],[910]⟩,⟨.n,0,[],[5,6,7,8],[]⟩,⟨.e,910,[],[0,1,2,3,4],[]⟩,⟨.n,0,[],[0,1,2,3,4,5,6,7,8,9,10],[]⟩,⟨.n,0,[],[0,1,2,3,4,5,6,7,8,9,10,11],[]⟩]),
 (2,5,0,[⟨.r,0,[],[],[]⟩,⟨.r,0,[],[],[]⟩,⟨.n,0,[],[1],[]⟩,⟨.e,903,[],[0,1,2],[]⟩,⟨.e,904,[],[0,1,2,3],[]⟩]),
 (16,10,0,[pN,⟨.n,0,[],[0],[]⟩,⟨.n,0,[],[0,1],[]⟩,⟨.r,0,[],[0,1,2],[]⟩,⟨.n,0,[],[0,1,2],[]⟩,⟨.n,0,[],[0,1,2],[]⟩,⟨.r,0,[],[0,1,2,4,5],[]⟩,⟨.r,0,[],[0,1,2,4,5,6],[]⟩,⟨.z,0,[],[0,1,2,3,4,5,6,7],[]⟩,⟨.n,0,[],[0,1,2,3,4,5,6,7,8],[]⟩]),
 (18,11,0,[pN,pN,⟨.r,0,[],[0,1],[]⟩,⟨.r,0,[],[0,1,2],[]⟩,⟨.r,0,[],[],[]⟩,⟨.r,0,[],[],[]⟩,⟨.n,0,[],[4,5],[]⟩,⟨.n,0,[],[0,1,2,3,4,5,6],[]⟩,⟨.r,0,[],[],[909]⟩,⟨.e,909,[],[0,1,2,3,4,5,6,7],[]⟩,⟨.e,910,[],[0,1,2,3,4,5,6,7,8,9],[]⟩]),
 (22,4,0,[⟨.r,0,[],[],[]⟩,⟨.r,0,[],[],[902]⟩,⟨.e,902,[],[0],[]⟩,⟨.e,903,[],[0,1,2],[]⟩]),
 (1,16,0,[pN,⟨.r,0,[],[],[]⟩,pN,pN,⟨.r,0,[],[],[]⟩,pN,pN,⟨.r,0,[],[],[]⟩,pN,pN,⟨.r,0,[],[],[]⟩,pN,pN,pN,pN,pN]),
 (5,5,0,[pN,⟨.n,0,[],[0],[]⟩,⟨.r,0,[],[],[903]⟩,⟨.e,903,[],[0,1],[]⟩,⟨.e,904,[],[0,1,2,3],[]⟩]),
 (8,4,0,[⟨.r,0,[],[],[]⟩,⟨.r,0,[],[],[902]⟩,⟨.e,902,[],[0],[]⟩,⟨.e,903,[],[0,1,2],[]⟩]),
 (34,10,0,[pN,⟨.r,0,[],[0],[]⟩,⟨.n,0,[],[0,1],[]⟩,⟨.n,0,[],[0,1,2],[]⟩,pN,⟨.r,0,[],[4],[]⟩,⟨.n,0,[],[0,1,2,4,5],[]⟩,⟨.n,0,[],[0,1,2,4,5,6],[]⟩,⟨.e,908,[],[0,1,2,3,4,5,6],[]⟩,⟨.n,0,[],[0,1,2,3,4,5,6,7,8],[]⟩]),
 (9,4,0,[⟨.r,0,[],[],[]⟩,⟨.r,0,[],[],[902]⟩,⟨.e,902,[],[0],[]⟩,⟨.e,903,[],[0,1,2],[]⟩])]
theorem dg {nat:pR} {mM:FuncId→List V→Option V} (yI:pU af mM) (cO:mL af nat) (n:Nat) {f:FuncId} {vs:List V} {r:V} (h:yd af tt (ev af tt CN nat mM noM n) f vs=some r):bR af f vs r:=Wo tt_ok cy gI yI Yt cO n h
theorem Gk {nat:pR} {mM:FuncId→List V→Option V} {rf:lG} (yI:pU af mM) (Mv:ki af rf) (cO:mL af nat) (n:Nat) {f:FuncId} {vs:List V} {r:V} (h:yd af tt (ev af tt CN nat mM rf n) f vs=some r):bR af f vs r:=Wo tt_ok cy gI yI Mv cO n h
theorem vj {nat:pR} {mM:FuncId→List V→Option V} {rf:lG} (yI:pU af mM) (Mv:ki af rf) (cO:mL af nat) (n:Nat) {f:FuncId} {vs:List V} {mem:List bm} {outs:List (V×List bm)} (h:S8 af tt (ev af tt CN nat mM rf n) f vs mem=some outs):eB af f vs mem fun r m=>(r,m)∈outs:=Yu tt_ok cy gI yI Mv cO n h
noncomputable def Ue:pR:=fun f vs=>if f=317 then I7 vs else XU af f vs
theorem cw (hG:bg.g=some 1):mL af Ue:=fun f vs r h=>by
 unfold Ue at h;split at h;·rename_i hf;subst hf;exact Mw (fn:=Tryz.f317) (by kernel_rfl) (by kernel_rfl) (by kernel_rfl) (by kernel_rfl) (by kernel_rfl) (fun w=>by simp only [globalAddr,program,Sem.run_bind];show (match af.globals.findIdx? (fun x=>x.name == "internal/bytealg.MaxLen") with | some g=>_ | none=>_:Sem Addr).run af w=_;rw [show af.globals.findIdx? (fun x=>x.name == "internal/bytealg.MaxLen")=some 1 from by kernel_rfl]; rfl) hG h
 exact Tv h
end Go.Proofs.YtnboooapeopjoaaGreatDoor
end
