import Derived.Test.YtfbbfmcggbapoaaGreatDoorE4
import Derived.Test.YtfbbfmcggbapoaaGreatDoorProg
import Derived.KernelRfl
open Go.Proofs.Tryz renaming prog->ak
set_option linter.all false
section
namespace Go.Proofs.YtfbbfmcggbapoaaGreatDoor
open Go.Eng
variable [bJ]
set_option maxHeartbeats 4000000
set_option maxRecDepth 100000
def cw:Ti := { size:=1,agg:=false,zero:=[.nilFunc],bytes:=8 }
def LD:Ti := { size:=1,agg:=false,zero:=[.pointer none],bytes:=8 }
def W6:Ti := { size:=1,agg:=false,zero:=[.int .u8 0],bytes:=1 }
def W7:Ti := { size:=2,agg:=true,zero:=[.string ⟨#[]⟩,.string ⟨#[]⟩],bT:=[(0,1),(1,1)],bytes:=32 }
def abZ:Ti := { size:=1,agg:=false,zero:=[.int .i64 0],bytes:=8 }
def ab0:Ti := { size:=1,agg:=false,zero:=[.string ⟨#[]⟩],bytes:=16 }
def ab1:Ti := { size:=1,agg:=false,zero:=[.int .u64 0],bytes:=8 }
def ab2:Ti := { size:=1,agg:=false,zero:=[.nilIface],bytes:=16 }
def ab3:Ti := { size:=1,agg:=false,zero:=[.int .i32 0],bytes:=4 }
def ab4:Ti := { size:=0,agg:=true,zero:=[],bytes:=0 }
def Y8:Ti := { size:=4,agg:=true,zero:=[.int .i64 0,.int .i64 0,.bool false,.int .u8 0],bT:=[(0,1),(1,1),(2,1),(3,1)],bytes:=24 }
def Y9:Ti := { size:=2,agg:=true,zero:=[.string ⟨#[]⟩,.int .u64 0],bT:=[(0,1),(1,1)],bytes:=24 }
def Za:Ti := { size:=1,agg:=true,zero:=[.pointer none],bT:=[(0,1)],bytes:=8 }
def Zb:Ti := { size:=5,agg:=true,zero:=[.int .i64 0,.string ⟨#[]⟩,.string ⟨#[]⟩,.slice none 0 0,.slice none 0 0],bT:=[(0,1),(1,1),(2,1),(3,1),(4,1)],bytes:=88 }
def Zc:Ti := { size:=8,agg:=true,zero:=[.int .i64 0,.string ⟨#[]⟩,.string ⟨#[]⟩,.string ⟨#[]⟩,.int .i64 0,.slice none 0 0,.slice none 0 0,.slice none 0 0],bT:=[(0,1),(1,1),(2,1),(3,1),(4,1),(5,1),(6,1),(7,1)],bytes:=136 }
def Zd:Ti := { size:=3,agg:=true,zero:=[.string ⟨#[]⟩,.slice none 0 0,.slice none 0 0],bT:=[(0,1),(1,1),(2,1)],bytes:=64 }
def Ze:Ti := { size:=3,agg:=true,zero:=[.int .i64 0,.string ⟨#[]⟩,.int .i64 0],bT:=[(0,1),(1,1),(2,1)],bytes:=32 }
def Zf:Ti := { size:=31,agg:=true,zero:=[.int .i64 0,.string ⟨#[]⟩,.bool false,.bool false,.string ⟨#[]⟩,.slice none 0 0,.int .i64 0,.string ⟨#[]⟩,.string ⟨#[]⟩,.slice none 0 0,.slice none 0 0,.int .i64 0,.string ⟨#[]⟩,.string ⟨#[]⟩,.slice none 0 0,.slice none 0 0,.int .i64 0,.string ⟨#[]⟩,.string ⟨#[]⟩,.slice none 0 0,.slice none 0 0,.int .i64 0,.string ⟨#[]⟩,.string ⟨#[]⟩,.string ⟨#[]⟩,.int .i64 0,.slice none 0 0,.slice none 0 0,.slice none 0 0,.string ⟨#[]⟩,.string ⟨#[]⟩],bT:=[(0,1),(1,1),(2,1),(3,1),(4,1),(5,1),(6,5),(11,5),(16,5),(21,8),(29,1),(30,1)],bytes:=504 }
def Zg:Ti := { size:=4,agg:=true,zero:=[.slice none 0 0,.int .i64 0,.int .i64 0,.int .i64 0],bT:=[(0,1),(1,1),(2,1),(3,1)],bytes:=48 }
def Zh:Ti := { size:=7,agg:=true,zero:=[.string ⟨#[]⟩,.int .i64 0,.string ⟨#[]⟩,.string ⟨#[]⟩,.slice none 0 0,.slice none 0 0,.bool false],bT:=[(0,1),(1,5),(6,1)],bytes:=112 }
def Zi:Ti := { size:=8,agg:=true,zero:=[.string ⟨#[]⟩,.string ⟨#[]⟩,.int .i64 0,.string ⟨#[]⟩,.string ⟨#[]⟩,.slice none 0 0,.slice none 0 0,.bool false],bT:=[(0,1),(1,1),(2,5),(7,1)],bytes:=128 }
def Zj:Ti := { size:=7,agg:=true,zero:=[.string ⟨#[]⟩,.int .i64 0,.int .i64 0,.string ⟨#[]⟩,.string ⟨#[]⟩,.slice none 0 0,.slice none 0 0],bT:=[(0,1),(1,1),(2,5)],bytes:=112 }
def Zk:Ti := { size:=2,agg:=true,zero:=[.pointer none,.slice none 0 0],bT:=[(0,1),(1,1)],bytes:=32 }
def Zl:Ti := { size:=2,agg:=true,zero:=[.pointer none,.slice none 0 0],bT:=[(0,2)],bytes:=32 }
def Zm:Ti := { size:=1,agg:=false,zero:=[.map none],bytes:=8 }
def Zn:Ti := { size:=4,agg:=true,zero:=[.string ⟨#[]⟩,.int .i64 0,.bool false,.int .i64 0],bT:=[(0,1),(1,1),(2,1),(3,1)],bytes:=40 }
def Zo:Ti := { size:=9,agg:=true,zero:=[.bool false,.bool false,.bool false,.bool false,.bool false,.bool false,.bool false,.int .i64 0,.bool false],bT:=[(0,1),(1,1),(2,1),(3,1),(4,1),(5,1),(6,1),(7,1),(8,1)],bytes:=24 }
def Zp:Ti := { size:=32,agg:=true,zero:=[.int .u8 0,.int .u8 0,.int .u8 0,.int .u8 0,.int .u8 0,.int .u8 0,.int .u8 0,.int .u8 0,.int .u8 0,.int .u8 0,.int .u8 0,.int .u8 0,.int .u8 0,.int .u8 0,.int .u8 0,.int .u8 0,.int .u8 0,.int .u8 0,.int .u8 0,.int .u8 0,.int .u8 0,.int .u8 0,.int .u8 0,.int .u8 0,.int .u8 0,.int .u8 0,.int .u8 0,.int .u8 0,.int .u8 0,.int .u8 0,.int .u8 0,.int .u8 0],bytes:=32 }
def Zq:Ti := { size:=2,agg:=true,zero:=[.int .u8 0,.int .u8 0],bT:=[(0,1),(1,1)],bytes:=2 }
def Zr:Ti := { size:=4,agg:=true,zero:=[.pointer none,.pointer none,.pointer none,.string ⟨#[]⟩],bT:=[(0,1),(1,1),(2,1),(3,1)],bytes:=40 }
def Zs:Ti := { size:=11,agg:=true,zero:=[.int .u64 0,.int .u64 0,.int .u32 0,.int .u8 0,.int .u8 0,.int .u8 0,.int .u8 0,.nilFunc,.pointer none,.int .i32 0,.int .i32 0],bT:=[(0,1),(1,1),(2,1),(3,1),(4,1),(5,1),(6,1),(7,1),(8,1),(9,1),(10,1)],bytes:=48 }
def tab:List (Nat×Ti):=[
 (1,cw),
 (2,abZ),
 (3,abZ),
 (4,{ size:=1,agg:=false,zero:=[.bool false],bytes:=1 }),
 (5,W6),
 (6,W6),
 (7,Y8),
 (8,Y8),
 (9,ab0),
 (10,ab0),
 (11,ab0),
 (12,ab1),
 (13,Y9),
 (14,Y9),
 (15,LD),
 (16,LD),
 (17,LD),
 (18,Za),
 (19,Za),
 (20,ab2),
 (21,ab3),
 (22,{ size:=1,agg:=false,zero:=[.slice none 0 0],elem:=some 25,bytes:=24 }),
 (23,{ size:=1,agg:=false,zero:=[.slice none 0 0],elem:=some 95,bytes:=24 }),
 (24,Zb),
 (25,Zb),
 (26,{ size:=1,agg:=false,zero:=[.slice none 0 0],elem:=some 100,bytes:=24 }),
 (27,{ size:=1,agg:=false,zero:=[.slice none 0 0],elem:=some 29,bytes:=24 }),
 (28,Zc),
 (29,Zc),
 (30,{ size:=1,agg:=false,zero:=[.slice none 0 0],elem:=some 84,bytes:=24 }),
 (31,{ size:=1,agg:=false,zero:=[.slice none 0 0],elem:=some 80,bytes:=24 }),
 (32,Zd),
 (33,Zd),
 (34,cw),
 (35,cw),
 (36,abZ),
 (38,cw),
 (39,cw),
 (40,cw),
 (42,cw),
 (43,cw),
 (45,cw),
 (46,cw),
 (48,cw),
 (49,cw),
 (50,cw),
 (51,cw),
 (52,cw),
 (53,{ size:=1,agg:=false,zero:=[.slice none 0 0],elem:=some 58,bytes:=24 }),
 (55,cw),
 (56,{ size:=1,agg:=false,zero:=[.slice none 0 0],elem:=some 3,bytes:=24 }),
 (57,Ze),
 (58,Ze),
 (59,cw),
 (60,cw),
 (61,cw),
 (62,cw),
 (63,cw),
 (64,cw),
 (65,cw),
 (66,cw),
 (67,cw),
 (68,LD),
 (69,cw),
 (70,cw),
 (71,cw),
 (72,cw),
 (73,cw),
 (74,cw),
 (76,cw),
 (77,cw),
 (78,{ size:=1,agg:=false,zero:=[.slice none 0 0],elem:=some 123,bytes:=24 }),
 (79,Zf),
 (80,Zf),
 (81,cw),
 (82,cw),
 (83,W7),
 (84,W7),
 (85,cw),
 (86,cw),
 (87,Zg),
 (88,Zg),
 (89,cw),
 (91,cw),
 (92,cw),
 (93,cw),
 (94,Zh),
 (95,Zh),
 (96,cw),
 (98,cw),
 (99,Zi),
 (100,Zi),
 (102,cw),
 (103,cw),
 (104,cw),
 (106,cw),
 (107,cw),
 (109,cw),
 (110,cw),
 (111,cw),
 (112,cw),
 (114,cw),
 (115,{ size:=1,agg:=false,zero:=[.slice none 0 0],elem:=some 118,bytes:=24 }),
 (116,cw),
 (117,W7),
 (118,W7),
 (119,{ size:=1,agg:=false,zero:=[.slice none 0 0],elem:=some 9,bytes:=24 }),
 (120,cw),
 (121,cw),
 (122,Zj),
 (123,Zj),
 (124,LD),
 (125,{ size:=1,agg:=false,zero:=[.slice none 0 0],elem:=some 5,bytes:=24 }),
 (126,Zk),
 (127,Zk),
 (128,Zl),
 (129,Zl),
 (130,cw),
 (131,cw),
 (132,cw),
 (133,cw),
 (134,cw),
 (135,cw),
 (136,cw),
 (137,cw),
 (138,cw),
 (139,cw),
 (140,cw),
 (141,{ size:=5,agg:=true,zero:=[.string ⟨#[]⟩,.string ⟨#[]⟩,.string ⟨#[]⟩,.string ⟨#[]⟩,.string ⟨#[]⟩],bytes:=80 }),
 (142,cw),
 (143,cw),
 (144,Zm),
 (145,cw),
 (146,cw),
 (147,cw),
 (148,cw),
 (149,cw),
 (150,cw),
 (151,cw),
 (152,cw),
 (153,cw),
 (154,cw),
 (155,cw),
 (156,cw),
 (157,cw),
 (158,cw),
 (159,cw),
 (160,cw),
 (161,cw),
 (162,cw),
 (163,cw),
 (164,cw),
 (165,cw),
 (166,cw),
 (167,cw),
 (168,cw),
 (169,ab2),
 (170,ab2),
 (172,cw),
 (173,cw),
 (174,cw),
 (175,cw),
 (177,cw),
 (179,cw),
 (181,cw),
 (182,cw),
 (183,cw),
 (185,cw),
 (186,cw),
 (187,cw),
 (188,cw),
 (189,cw),
 (190,cw),
 (191,cw),
 (192,cw),
 (193,cw),
 (194,LD),
 (195,cw),
 (196,cw),
 (197,cw),
 (198,cw),
 (199,cw),
 (200,Zn),
 (201,Zn),
 (203,cw),
 (204,cw),
 (205,cw),
 (206,cw),
 (207,cw),
 (208,cw),
 (209,ab1),
 (210,{ size:=2,agg:=true,zero:=[.int .i64 0,.int .i64 0],bytes:=16 }),
 (212,cw),
 (214,cw),
 (215,cw),
 (216,cw),
 (217,Zm),
 (218,cw),
 (219,{ size:=3,agg:=true,zero:=[.string ⟨#[]⟩,.string ⟨#[]⟩,.string ⟨#[]⟩],bytes:=48 }),
 (221,cw),
 (222,cw),
 (223,cw),
 (224,cw),
 (226,cw),
 (227,cw),
 (228,cw),
 (229,cw),
 (230,cw),
 (231,Zo),
 (232,Zo),
 (234,cw),
 (235,cw),
 (236,cw),
 (237,cw),
 (238,cw),
 (239,cw),
 (240,cw),
 (241,cw),
 (242,cw),
 (243,cw),
 (244,cw),
 (245,LD),
 (246,cw),
 (247,cw),
 (248,cw),
 (249,cw),
 (250,cw),
 (251,cw),
 (252,cw),
 (253,cw),
 (255,cw),
 (256,{ size:=24,agg:=true,zero:=[.int .u8 0,.int .u8 0,.int .u8 0,.int .u8 0,.int .u8 0,.int .u8 0,.int .u8 0,.int .u8 0,.int .u8 0,.int .u8 0,.int .u8 0,.int .u8 0,.int .u8 0,.int .u8 0,.int .u8 0,.int .u8 0,.int .u8 0,.int .u8 0,.int .u8 0,.int .u8 0,.int .u8 0,.int .u8 0,.int .u8 0,.int .u8 0],bytes:=24 }),
 (257,ab1),
 (258,cw),
 (259,cw),
 (261,cw),
 (262,cw),
 (263,cw),
 (264,cw),
 (265,cw),
 (266,cw),
 (267,{ size:=20,agg:=true,zero:=[.int .u64 0,.int .u64 0,.int .u64 0,.int .u64 0,.int .u64 0,.int .u64 0,.int .u64 0,.int .u64 0,.int .u64 0,.int .u64 0,.int .u64 0,.int .u64 0,.int .u64 0,.int .u64 0,.int .u64 0,.int .u64 0,.int .u64 0,.int .u64 0,.int .u64 0,.int .u64 0],bytes:=160 }),
 (268,{ size:=1,agg:=false,zero:=[.int .u32 0],bytes:=4 }),
 (269,{ size:=65,agg:=true,zero:=[.int .u8 0,.int .u8 0,.int .u8 0,.int .u8 0,.int .u8 0,.int .u8 0,.int .u8 0,.int .u8 0,.int .u8 0,.int .u8 0,.int .u8 0,.int .u8 0,.int .u8 0,.int .u8 0,.int .u8 0,.int .u8 0,.int .u8 0,.int .u8 0,.int .u8 0,.int .u8 0,.int .u8 0,.int .u8 0,.int .u8 0,.int .u8 0,.int .u8 0,.int .u8 0,.int .u8 0,.int .u8 0,.int .u8 0,.int .u8 0,.int .u8 0,.int .u8 0,.int .u8 0,.int .u8 0,.int .u8 0,.int .u8 0,.int .u8 0,.int .u8 0,.int .u8 0,.int .u8 0,.int .u8 0,.int .u8 0,.int .u8 0,.int .u8 0,.int .u8 0,.int .u8 0,.int .u8 0,.int .u8 0,.int .u8 0,.int .u8 0,.int .u8 0,.int .u8 0,.int .u8 0,.int .u8 0,.int .u8 0,.int .u8 0,.int .u8 0,.int .u8 0,.int .u8 0,.int .u8 0,.int .u8 0,.int .u8 0,.int .u8 0,.int .u8 0,.int .u8 0],bytes:=65 }),
 (270,cw),
 (271,cw),
 (273,cw),
 (274,cw),
 (275,cw),
 (277,cw),
 (278,Zp),
 (279,{ size:=64,agg:=true,zero:=[.int .u8 0,.int .u8 0,.int .u8 0,.int .u8 0,.int .u8 0,.int .u8 0,.int .u8 0,.int .u8 0,.int .u8 0,.int .u8 0,.int .u8 0,.int .u8 0,.int .u8 0,.int .u8 0,.int .u8 0,.int .u8 0,.int .u8 0,.int .u8 0,.int .u8 0,.int .u8 0,.int .u8 0,.int .u8 0,.int .u8 0,.int .u8 0,.int .u8 0,.int .u8 0,.int .u8 0,.int .u8 0,.int .u8 0,.int .u8 0,.int .u8 0,.int .u8 0,.int .u8 0,.int .u8 0,.int .u8 0,.int .u8 0,.int .u8 0,.int .u8 0,.int .u8 0,.int .u8 0,.int .u8 0,.int .u8 0,.int .u8 0,.int .u8 0,.int .u8 0,.int .u8 0,.int .u8 0,.int .u8 0,.int .u8 0,.int .u8 0,.int .u8 0,.int .u8 0,.int .u8 0,.int .u8 0,.int .u8 0,.int .u8 0,.int .u8 0,.int .u8 0,.int .u8 0,.int .u8 0,.int .u8 0,.int .u8 0,.int .u8 0,.int .u8 0],bytes:=64 }),
 (281,Zq),
 (282,Zq),
 (283,Zp),
 (284,Zr),
 (285,Zr),
 (286,ab4),
 (287,ab4),
 (288,ab4),
 (289,W6),
 (290,W6),
 (291,cw),
 (292,ab3),
 (293,ab3),
 (294,Zs),
 (295,Zs)]
def tt:Table:=uk tab
theorem tt_ok:TT ak tt:=tt_of (P:=ak) (l:=tab) (by kernel_rfl)
theorem nI:ak.follows .mixedOrders=true:=by kernel_rfl
theorem tt3:tt 3=some { size:=1,agg:=false,zero:=[.int .i64 0],bytes:=8 }:=by kernel_rfl
theorem tt4:tt 4=some { size:=1,agg:=false,zero:=[.bool false],bytes:=1 }:=by kernel_rfl
theorem tt5:tt 5=some { size:=1,agg:=false,zero:=[.int .u8 0],bytes:=1 }:=by kernel_rfl
theorem tt9:tt 9=some { size:=1,agg:=false,zero:=[.string ⟨#[]⟩],bytes:=16 }:=by kernel_rfl
theorem alN:tt 22=some { size:=1,agg:=false,zero:=[.slice none 0 0],elem:=some 25,bytes:=24 }:=by kernel_rfl
theorem alO:tt 23=some { size:=1,agg:=false,zero:=[.slice none 0 0],elem:=some 95,bytes:=24 }:=by kernel_rfl
theorem alP:tt 25=some { size:=5,agg:=true,zero:=[.int .i64 0,.string ⟨#[]⟩,.string ⟨#[]⟩,.slice none 0 0,.slice none 0 0],bT:=[(0,1),(1,1),(2,1),(3,1),(4,1)],bytes:=88 }:=by kernel_rfl
theorem alQ:tt 26=some { size:=1,agg:=false,zero:=[.slice none 0 0],elem:=some 100,bytes:=24 }:=by kernel_rfl
theorem alR:tt 27=some { size:=1,agg:=false,zero:=[.slice none 0 0],elem:=some 29,bytes:=24 }:=by kernel_rfl
theorem alS:tt 29=some { size:=8,agg:=true,zero:=[.int .i64 0,.string ⟨#[]⟩,.string ⟨#[]⟩,.string ⟨#[]⟩,.int .i64 0,.slice none 0 0,.slice none 0 0,.slice none 0 0],bT:=[(0,1),(1,1),(2,1),(3,1),(4,1),(5,1),(6,1),(7,1)],bytes:=136 }:=by kernel_rfl
theorem alT:tt 30=some { size:=1,agg:=false,zero:=[.slice none 0 0],elem:=some 84,bytes:=24 }:=by kernel_rfl
theorem alU:tt 31=some { size:=1,agg:=false,zero:=[.slice none 0 0],elem:=some 80,bytes:=24 }:=by kernel_rfl
theorem alV:tt 33=some { size:=3,agg:=true,zero:=[.string ⟨#[]⟩,.slice none 0 0,.slice none 0 0],bT:=[(0,1),(1,1),(2,1)],bytes:=64 }:=by kernel_rfl
theorem alW:tt 36=some { size:=1,agg:=false,zero:=[.int .i64 0],bytes:=8 }:=by kernel_rfl
theorem alX:tt 50=some { size:=1,agg:=false,zero:=[.nilFunc],bytes:=8 }:=by kernel_rfl
theorem alY:tt 53=some { size:=1,agg:=false,zero:=[.slice none 0 0],elem:=some 58,bytes:=24 }:=by kernel_rfl
theorem alZ:tt 58=some { size:=3,agg:=true,zero:=[.int .i64 0,.string ⟨#[]⟩,.int .i64 0],bT:=[(0,1),(1,1),(2,1)],bytes:=32 }:=by kernel_rfl
theorem al0:tt 59=some { size:=1,agg:=false,zero:=[.nilFunc],bytes:=8 }:=by kernel_rfl
theorem al1:tt 62=some { size:=1,agg:=false,zero:=[.nilFunc],bytes:=8 }:=by kernel_rfl
theorem al2:tt 68=some { size:=1,agg:=false,zero:=[.pointer none],bytes:=8 }:=by kernel_rfl
theorem al3:tt 78=some { size:=1,agg:=false,zero:=[.slice none 0 0],elem:=some 123,bytes:=24 }:=by kernel_rfl
theorem al4:tt 80=some { size:=31,agg:=true,zero:=[.int .i64 0,.string ⟨#[]⟩,.bool false,.bool false,.string ⟨#[]⟩,.slice none 0 0,.int .i64 0,.string ⟨#[]⟩,.string ⟨#[]⟩,.slice none 0 0,.slice none 0 0,.int .i64 0,.string ⟨#[]⟩,.string ⟨#[]⟩,.slice none 0 0,.slice none 0 0,.int .i64 0,.string ⟨#[]⟩,.string ⟨#[]⟩,.slice none 0 0,.slice none 0 0,.int .i64 0,.string ⟨#[]⟩,.string ⟨#[]⟩,.string ⟨#[]⟩,.int .i64 0,.slice none 0 0,.slice none 0 0,.slice none 0 0,.string ⟨#[]⟩,.string ⟨#[]⟩],bT:=[(0,1),(1,1),(2,1),(3,1),(4,1),(5,1),(6,5),(11,5),(16,5),(21,8),(29,1),(30,1)],bytes:=504 }:=by kernel_rfl
theorem al5:tt 84=some { size:=2,agg:=true,zero:=[.string ⟨#[]⟩,.string ⟨#[]⟩],bT:=[(0,1),(1,1)],bytes:=32 }:=by kernel_rfl
theorem al6:tt 95=some { size:=7,agg:=true,zero:=[.string ⟨#[]⟩,.int .i64 0,.string ⟨#[]⟩,.string ⟨#[]⟩,.slice none 0 0,.slice none 0 0,.bool false],bT:=[(0,1),(1,5),(6,1)],bytes:=112 }:=by kernel_rfl
theorem ags:tt 100=some { size:=8,agg:=true,zero:=[.string ⟨#[]⟩,.string ⟨#[]⟩,.int .i64 0,.string ⟨#[]⟩,.string ⟨#[]⟩,.slice none 0 0,.slice none 0 0,.bool false],bT:=[(0,1),(1,1),(2,5),(7,1)],bytes:=128 }:=by kernel_rfl
theorem agt:tt 119=some { size:=1,agg:=false,zero:=[.slice none 0 0],elem:=some 9,bytes:=24 }:=by kernel_rfl
theorem agu:tt 123=some { size:=7,agg:=true,zero:=[.string ⟨#[]⟩,.int .i64 0,.int .i64 0,.string ⟨#[]⟩,.string ⟨#[]⟩,.slice none 0 0,.slice none 0 0],bT:=[(0,1),(1,1),(2,5)],bytes:=112 }:=by kernel_rfl
theorem Sj:tt 125=some { size:=1,agg:=false,zero:=[.slice none 0 0],elem:=some 5,bytes:=24 }:=by kernel_rfl
theorem Zu:tt 127=some { size:=2,agg:=true,zero:=[.pointer none,.slice none 0 0],bT:=[(0,1),(1,1)],bytes:=32 }:=by kernel_rfl
theorem Zv:tt 129=some { size:=2,agg:=true,zero:=[.pointer none,.slice none 0 0],bT:=[(0,2)],bytes:=32 }:=by kernel_rfl
theorem agv:tt 141=some { size:=5,agg:=true,zero:=[.string ⟨#[]⟩,.string ⟨#[]⟩,.string ⟨#[]⟩,.string ⟨#[]⟩,.string ⟨#[]⟩],bytes:=80 }:=by kernel_rfl
theorem agw:tt 144=some { size:=1,agg:=false,zero:=[.map none],bytes:=8 }:=by kernel_rfl
theorem B6:tt 201=some { size:=4,agg:=true,zero:=[.string ⟨#[]⟩,.int .i64 0,.bool false,.int .i64 0],bT:=[(0,1),(1,1),(2,1),(3,1)],bytes:=40 }:=by kernel_rfl
theorem agx:tt 210=some { size:=2,agg:=true,zero:=[.int .i64 0,.int .i64 0],bytes:=16 }:=by kernel_rfl
theorem agy:tt 219=some { size:=3,agg:=true,zero:=[.string ⟨#[]⟩,.string ⟨#[]⟩,.string ⟨#[]⟩],bytes:=48 }:=by kernel_rfl
theorem agz:tt 232=some { size:=9,agg:=true,zero:=[.bool false,.bool false,.bool false,.bool false,.bool false,.bool false,.bool false,.int .i64 0,.bool false],bT:=[(0,1),(1,1),(2,1),(3,1),(4,1),(5,1),(6,1),(7,1),(8,1)],bytes:=24 }:=by kernel_rfl
theorem fM (f:FuncId) (fn:Func) (body:Code) (hf:ak.funcs[f]?=some fn) (hb:fn.body=some body) (xs:Array Value) (w:World):(callFunc f xs).run ak w = .ok (.enter f xs) w:=Sg (by kernel_rfl) f fn body hf hb xs w
def Sk:IG:=abY [
 (7,5,0,[⟨.r,0,[],[],[]⟩,⟨.r,0,[],[],[]⟩,⟨.n,0,[],[1],[]⟩,⟨.n,0,[],[0,1,2],[]⟩,⟨.e,904,[],[0,1,2,3],[]⟩]),
 (16,10,0,[pN,pN,⟨.r,0,[],[],[]⟩,pN,pN,pN,⟨.r,0,[],[],[]⟩,pN,pN,pN]),
 (5,6,0,[⟨.r,0,[],[],[]⟩,pN,pN,⟨.r,0,[],[1,2],[]⟩,⟨.r,0,[],[1,2,3],[]⟩,⟨.z,0,[],[0,1,2,3,4],[]⟩]),
 (4,7,0,[pN,⟨.n,0,[],[0],[]⟩,pN,⟨.n,0,[],[0,1,2],[]⟩,⟨.r,0,[],[],[]⟩,⟨.n,0,[],[0,1,2,3],[]⟩,⟨.e,906,[],[0,1,2,3,4,5],[]⟩]),
 (7,4,0,[pN,⟨.r,0,[],[],[]⟩,⟨.n,0,[],[0],[]⟩,⟨.e,903,[],[0,1,2],[]⟩]),
 (4,9,0,[pN,⟨.r,0,[],[0],[]⟩,pN,⟨.r,0,[],[2],[]⟩,⟨.r,0,[],[],[]⟩,⟨.n,0,[],[4],[]⟩,⟨.n,0,[],[0,1,4,5],[]⟩,⟨.n,0,[],[0,1,2,3,4,5,6],[]⟩,⟨.e,908,[],[0,1,2,3,4,5,6,7],[]⟩]),
 (9,8,0,[⟨.r,0,[],[],[]⟩,⟨.r,0,[],[],[]⟩,⟨.n,0,[],[1],[]⟩,⟨.n,0,[],[0,1,2],[]⟩,⟨.n,0,[],[0,1,2,3],[]⟩,⟨.n,0,[],[0,1,2,3],[]⟩,⟨.e,906,[],[0,1,2,3,4,5],[]⟩,⟨.e,907,[],[0,1,2,3,4,5,6],[]⟩]),
 (10,5,0,[pN,pN,pN,⟨.r,0,[],[],[]⟩,pN]),
 (21,22,0,[pN,pN,pN,pN,⟨.r,0,[],[],[]⟩,⟨.r,0,[],[],[]⟩,pN,pN,pN,pN,pN,pN,⟨.r,0,[],[],[]⟩,⟨.r,0,[],[],[]⟩,pN,⟨.r,0,[],[],[]⟩,pN,pN,⟨.r,0,[],[],[]⟩,⟨.r,0,[],[],[]⟩,pN,pN]),
 (22,13,0,[pN,pN,⟨.r,0,[],[0,1],[]⟩,⟨.r,0,[],[0,1,2],[]⟩,⟨.n,0,[],[0,1,2,3],[]⟩,pN,pN,⟨.r,0,[],[5,6],[910]⟩,⟨.r,0,[],[5,6,7],[910]⟩,⟨.n,0,[],[5,6,7,8],[]⟩,⟨.e,910,[],[0,1,2,3,4],[]⟩,⟨.n,0,[],[0,1,2,3,4,5,6,7,8,9,10],[]⟩,⟨.n,0,[],[0,1,2,3,4,5,6,7,8,9,10,11],[]⟩]),
 (2,3,0,[⟨.r,0,[],[],[]⟩,pN,⟨.e,902,[],[0,1],[]⟩]),
 (16,10,0,[pN,⟨.n,0,[],[0],[]⟩,⟨.n,0,[],[0,1],[]⟩,⟨.r,0,[],[0,1,2],[]⟩,⟨.n,0,[],[0,1,2],[]⟩,⟨.n,0,[],[0,1,2],[]⟩,⟨.r,0,[],[0,1,2,4,5],[]⟩,⟨.r,0,[],[0,1,2,4,5,6],[]⟩,⟨.z,0,[],[0,1,2,3,4,5,6,7],[]⟩,⟨.n,0,[],[0,1,2,3,4,5,6,7,8],[]⟩]),
 (18,11,0,[pN,pN,⟨.r,0,[],[0,1],[]⟩,⟨.r,0,[],[0,1,2],[]⟩,⟨.r,0,[],[],[]⟩,⟨.r,0,[],[],[]⟩,⟨.n,0,[],[4,5],[]⟩,⟨.n,0,[],[0,1,2,3,4,5,6],[]⟩,⟨.r,0,[],[],[909]⟩,⟨.e,909,[],[0,1,2,3,4,5,6,7],[]⟩,⟨.e,910,[],[0,1,2,3,4,5,6,7,8,9],[]⟩]),
 (22,4,0,[⟨.r,0,[],[],[]⟩,⟨.r,0,[],[],[902]⟩,⟨.e,902,[],[0],[]⟩,⟨.e,903,[],[0,1,2],[]⟩]),
 (14,4,0,[⟨.r,0,[],[],[]⟩,⟨.r,0,[],[],[902]⟩,⟨.e,902,[],[0],[]⟩,⟨.e,903,[],[0,1,2],[]⟩]),
 (7,18,1,[pN,pN,pN,pN,pN,pN,pN,pN,⟨.r,0,[],[],[]⟩,⟨.r,0,[],[],[]⟩,pN,pN,pN,pN,pN,pN,⟨.r,0,[],[],[]⟩,⟨.w,0,[],[],[]⟩]),
 (34,10,0,[pN,⟨.r,0,[],[0],[]⟩,⟨.n,0,[],[0,1],[]⟩,⟨.n,0,[],[0,1,2],[]⟩,pN,⟨.r,0,[],[4],[]⟩,⟨.n,0,[],[0,1,2,4,5],[]⟩,⟨.n,0,[],[0,1,2,4,5,6],[]⟩,⟨.e,908,[],[0,1,2,3,4,5,6],[]⟩,⟨.n,0,[],[0,1,2,3,4,5,6,7,8],[]⟩]),
 (5,5,0,[pN,⟨.n,0,[],[0],[]⟩,⟨.r,0,[],[],[903]⟩,⟨.e,903,[],[0,1],[]⟩,⟨.e,904,[],[0,1,2,3],[]⟩]),
 (8,4,0,[⟨.r,0,[],[],[]⟩,⟨.r,0,[],[],[902]⟩,⟨.e,902,[],[0],[]⟩,⟨.e,903,[],[0,1,2],[]⟩]),
 (25,5,0,[⟨.r,0,[],[],[]⟩,⟨.r,0,[],[],[]⟩,⟨.n,0,[],[1],[]⟩,⟨.e,903,[],[0,1,2],[]⟩,⟨.e,904,[],[0,1,2,3],[]⟩]),
 (9,4,0,[⟨.r,0,[],[],[]⟩,⟨.r,0,[],[],[902]⟩,⟨.e,902,[],[0],[]⟩,⟨.e,903,[],[0,1,2],[]⟩])]
theorem cB {nat:rA} {nT:FuncId->List V->Option V} (Ge:r8 ak nT) (vh:nY ak nat) (n:Nat) {f:FuncId} {vs:List V} {r:V} (h:EA ak tt (ev ak tt Sk nat nT noM n) f vs=some r):dz ak f vs r:=Y7 tt_ok nI fM Ge abV vh n h
theorem Sl {nat:rA} {nT:FuncId->List V->Option V} {uT:my} (Ge:r8 ak nT) (Sf:ld ak uT) (vh:nY ak nat) (n:Nat) {f:FuncId} {vs:List V} {r:V} (h:EA ak tt (ev ak tt Sk nat nT uT n) f vs=some r):dz ak f vs r:=Y7 tt_ok nI fM Ge Sf vh n h
theorem ti {nat:rA} {nT:FuncId->List V->Option V} {uT:my} (Ge:r8 ak nT) (Sf:ld ak uT) (vh:nY ak nat) (n:Nat) {f:FuncId} {vs:List V} {mem:List bx} {outs:List (V×List bx)} (h:WY ak tt (ev ak tt Sk nat nT uT n) f vs mem=some outs):jY ak f vs mem fun r m=>(r,m)∈outs:=abW tt_ok nI fM Ge Sf vh n h
noncomputable def agA:rA:=fun f vs=>if f=300 then LC vs else abo ak f vs
theorem cq (hG:bJ.g=some 0):nY ak agA:=fun f vs r h=>by
 unfold agA at h;split at h;·rename_i hf;subst hf;exact PC (fn:=Tryz.f300) (by kernel_rfl) (by kernel_rfl) (by kernel_rfl) (by kernel_rfl) (by kernel_rfl) (fun w=>by simp only [globalAddr,program,Sem.run_bind];show (match ak.globals.findIdx? (fun x=>x.name == "internal/bytealg.MaxLen") with|some g=>_|none=>_:Sem Addr).run ak w=_;rw [show ak.globals.findIdx? (fun x=>x.name == "internal/bytealg.MaxLen")=some 0 from by kernel_rfl];rfl) hG h
 exact Wp h
end Go.Proofs.YtfbbfmcggbapoaaGreatDoor
end
