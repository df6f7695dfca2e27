import Derived.Test.YtfbbfmcggbapoaaGreatDoorE4
import Derived.Test.YtfbbfmcggbapoaaGreatDoorProg
import Derived.KernelRfl
open Go.Proofs.Tryz renaming prog→aj
set_option linter.all false
section
namespace Go.Proofs.YtfbbfmcggbapoaaGreatDoor
open Go.Eng
variable [bB]
set_option maxHeartbeats 4000000
set_option maxRecDepth 100000
def cq:Ti := { size:=1,agg:=false,zero:=[.nilFunc],bytes:=8 }
def JE:Ti := { size:=1,agg:=false,zero:=[.pointer none],bytes:=8 }
def Uw:Ti := { size:=1,agg:=false,zero:=[.int .u8 0],bytes:=1 }
def Ux:Ti := { size:=2,agg:=true,zero:=[.string ⟨#[]⟩,.string ⟨#[]⟩],bD:=[(0,1),(1,1)],bytes:=32 }
def YP:Ti := { size:=1,agg:=false,zero:=[.int .i64 0],bytes:=8 }
def YQ:Ti := { size:=1,agg:=false,zero:=[.string ⟨#[]⟩],bytes:=16 }
def YR:Ti := { size:=1,agg:=false,zero:=[.int .u64 0],bytes:=8 }
def YS:Ti := { size:=1,agg:=false,zero:=[.nilIface],bytes:=16 }
def YT:Ti := { size:=1,agg:=false,zero:=[.int .i32 0],bytes:=4 }
def YU:Ti := { size:=0,agg:=true,zero:=[],bytes:=0 }
def Wm:Ti := { size:=4,agg:=true,zero:=[.int .i64 0,.int .i64 0,.bool false,.int .u8 0],bD:=[(0,1),(1,1),(2,1),(3,1)],bytes:=24 }
def Wn:Ti := { size:=2,agg:=true,zero:=[.string ⟨#[]⟩,.int .u64 0],bD:=[(0,1),(1,1)],bytes:=24 }
def Wo:Ti := { size:=1,agg:=true,zero:=[.pointer none],bD:=[(0,1)],bytes:=8 }
def Wp:Ti := { size:=5,agg:=true,zero:=[.int .i64 0,.string ⟨#[]⟩,.string ⟨#[]⟩,.slice none 0 0,.slice none 0 0],bD:=[(0,1),(1,1),(2,1),(3,1),(4,1)],bytes:=88 }
def Wq:Ti := { size:=8,agg:=true,zero:=[.int .i64 0,.string ⟨#[]⟩,.string ⟨#[]⟩,.string ⟨#[]⟩,.int .i64 0,.slice none 0 0,.slice none 0 0,.slice none 0 0],bD:=[(0,1),(1,1),(2,1),(3,1),(4,1),(5,1),(6,1),(7,1)],bytes:=136 }
def Wr:Ti := { size:=3,agg:=true,zero:=[.string ⟨#[]⟩,.slice none 0 0,.slice none 0 0],bD:=[(0,1),(1,1),(2,1)],bytes:=64 }
def Ws:Ti := { size:=3,agg:=true,zero:=[.int .i64 0,.string ⟨#[]⟩,.int .i64 0],bD:=[(0,1),(1,1),(2,1)],bytes:=32 }
def Wt:Ti := { size:=31,agg:=true,zero:=[.int .i64 0,.string ⟨#[]⟩,.bool false,.bool false,.string ⟨#[]⟩,.slice none 0 0,.int .i64 0,.string ⟨#[]⟩,.string ⟨#[]⟩,.slice none 0 0,.slice none 0 0,.int .i64 0,.string ⟨#[]⟩,.string ⟨#[]⟩,.slice none 0 0,.slice none 0 0,.int .i64 0,.string ⟨#[]⟩,.string ⟨#[]⟩,.slice none 0 0,.slice none 0 0,.int .i64 0,.string ⟨#[]⟩,.string ⟨#[]⟩,.string ⟨#[]⟩,.int .i64 0,.slice none 0 0,.slice none 0 0,.slice none 0 0,.string ⟨#[]⟩,.string ⟨#[]⟩],bD:=[(0,1),(1,1),(2,1),(3,1),(4,1),(5,1),(6,5),(11,5),(16,5),(21,8),(29,1),(30,1)],bytes:=504 }
def Wu:Ti := { size:=4,agg:=true,zero:=[.slice none 0 0,.int .i64 0,.int .i64 0,.int .i64 0],bD:=[(0,1),(1,1),(2,1),(3,1)],bytes:=48 }
def Wv:Ti := { size:=7,agg:=true,zero:=[.string ⟨#[]⟩,.int .i64 0,.string ⟨#[]⟩,.string ⟨#[]⟩,.slice none 0 0,.slice none 0 0,.bool false],bD:=[(0,1),(1,5),(6,1)],bytes:=112 }
def Ww:Ti := { size:=8,agg:=true,zero:=[.string ⟨#[]⟩,.string ⟨#[]⟩,.int .i64 0,.string ⟨#[]⟩,.string ⟨#[]⟩,.slice none 0 0,.slice none 0 0,.bool false],bD:=[(0,1),(1,1),(2,5),(7,1)],bytes:=128 }
def Wx:Ti := { size:=7,agg:=true,zero:=[.string ⟨#[]⟩,.int .i64 0,.int .i64 0,.string ⟨#[]⟩,.string ⟨#[]⟩,.slice none 0 0,.slice none 0 0],bD:=[(0,1),(1,1),(2,5)],bytes:=112 }
def Wy:Ti := { size:=2,agg:=true,zero:=[.pointer none,.slice none 0 0],bD:=[(0,1),(1,1)],bytes:=32 }
def Wz:Ti := { size:=2,agg:=true,zero:=[.pointer none,.slice none 0 0],bD:=[(0,2)],bytes:=32 }
def WA:Ti := { size:=1,agg:=false,zero:=[.map none],bytes:=8 }
def WB:Ti := { size:=4,agg:=true,zero:=[.string ⟨#[]⟩,.int .i64 0,.bool false,.int .i64 0],bD:=[(0,1),(1,1),(2,1),(3,1)],bytes:=40 }
def WC:Ti := { size:=9,agg:=true,zero:=[.bool false,.bool false,.bool false,.bool false,.bool false,.bool false,.bool false,.int .i64 0,.bool false],bD:=[(0,1),(1,1),(2,1),(3,1),(4,1),(5,1),(6,1),(7,1),(8,1)],bytes:=24 }
def WD:Ti := { size:=32,agg:=true,zero:=[.int .u8 0,.int .u8 0,.int .u8 0,.int .u8 0,.int .u8 0,.int .u8 0,.int .u8 0,.int .u8 0,.int .u8 0,.int .u8 0,.int .u8 0,.int .u8 0,.int .u8 0,.int .u8 0,.int .u8 0,.int .u8 0,.int .u8 0,.int .u8 0,.int .u8 0,.int .u8 0,.int .u8 0,.int .u8 0,.int .u8 0,.int .u8 0,.int .u8 0,.int .u8 0,.int .u8 0,.int .u8 0,.int .u8 0,.int .u8 0,.int .u8 0,.int .u8 0],bytes:=32 }
def WE:Ti := { size:=2,agg:=true,zero:=[.int .u8 0,.int .u8 0],bD:=[(0,1),(1,1)],bytes:=2 }
def WH:Ti := { size:=4,agg:=true,zero:=[.pointer none,.pointer none,.pointer none,.string ⟨#[]⟩],bD:=[(0,1),(1,1),(2,1),(3,1)],bytes:=40 }
def WI:Ti := { size:=11,agg:=true,zero:=[.int .u64 0,.int .u64 0,.int .u32 0,.int .u8 0,.int .u8 0,.int .u8 0,.int .u8 0,.nilFunc,.pointer none,.int .i32 0,.int .i32 0],bD:=[(0,1),(1,1),(2,1),(3,1),(4,1),(5,1),(6,1),(7,1),(8,1),(9,1),(10,1)],bytes:=48 }
def tab:List (Nat×Ti):=[
 (1,cq),
 (2,YP),
 (3,YP),
 (4,{ size:=1,agg:=false,zero:=[.bool false],bytes:=1 }),
 (5,Uw),
 (6,Uw),
 (7,Wm),
 (8,Wm),
 (9,YQ),
 (10,YQ),
 (11,YQ),
 (12,YR),
 (13,Wn),
 (14,Wn),
 (15,JE),
 (16,JE),
 (17,JE),
 (18,Wo),
 (19,Wo),
 (20,YS),
 (21,YT),
 (22,{ size:=1,agg:=false,zero:=[.slice none 0 0],elem:=some 25,bytes:=24 }),
 (23,{ size:=1,agg:=false,zero:=[.slice none 0 0],elem:=some 95,bytes:=24 }),
 (24,Wp),
 (25,Wp),
 (26,{ size:=1,agg:=false,zero:=[.slice none 0 0],elem:=some 100,bytes:=24 }),
 (27,{ size:=1,agg:=false,zero:=[.slice none 0 0],elem:=some 29,bytes:=24 }),
 (28,Wq),
 (29,Wq),
 (30,{ size:=1,agg:=false,zero:=[.slice none 0 0],elem:=some 84,bytes:=24 }),
 (31,{ size:=1,agg:=false,zero:=[.slice none 0 0],elem:=some 80,bytes:=24 }),
 (32,Wr),
 (33,Wr),
 (34,cq),
 (35,cq),
 (36,YP),
 (38,cq),
 (39,cq),
 (40,cq),
 (42,cq),
 (43,cq),
 (45,cq),
 (46,cq),
 (48,cq),
 (49,cq),
 (50,cq),
 (51,cq),
 (52,cq),
 (53,{ size:=1,agg:=false,zero:=[.slice none 0 0],elem:=some 58,bytes:=24 }),
 (55,cq),
 (56,{ size:=1,agg:=false,zero:=[.slice none 0 0],elem:=some 3,bytes:=24 }),
 (57,Ws),
 (58,Ws),
 (59,cq),
 (60,cq),
 (61,cq),
 (62,cq),
 (63,cq),
 (64,cq),
 (65,cq),
 (66,cq),
 (67,cq),
 (68,JE),
 (69,cq),
 (70,cq),
 (71,cq),
 (72,cq),
 (73,cq),
 (74,cq),
 (76,cq),
 (77,cq),
 (78,{ size:=1,agg:=false,zero:=[.slice none 0 0],elem:=some 123,bytes:=24 }),
 (79,Wt),
 (80,Wt),
 (81,cq),
 (82,cq),
 (83,Ux),
 (84,Ux),
 (85,cq),
 (86,cq),
 (87,Wu),
 (88,Wu),
 (89,cq),
 (91,cq),
 (92,cq),
 (93,cq),
 (94,Wv),
 (95,Wv),
 (96,cq),
 (98,cq),
 (99,Ww),
 (100,Ww),
 (102,cq),
 (103,cq),
 (104,cq),
 (106,cq),
 (107,cq),
 (109,cq),
 (110,cq),
 (111,cq),
 (112,cq),
 (114,cq),
 (115,{ size:=1,agg:=false,zero:=[.slice none 0 0],elem:=some 118,bytes:=24 }),
 (116,cq),
 (117,Ux),
 (118,Ux),
 (119,{ size:=1,agg:=false,zero:=[.slice none 0 0],elem:=some 9,bytes:=24 }),
 (120,cq),
 (121,cq),
 (122,Wx),
 (123,Wx),
 (124,JE),
 (125,{ size:=1,agg:=false,zero:=[.slice none 0 0],elem:=some 5,bytes:=24 }),
 (126,Wy),
 (127,Wy),
 (128,Wz),
 (129,Wz),
 (130,cq),
 (131,cq),
 (132,cq),
 (133,cq),
 (134,cq),
 (135,cq),
 (136,cq),
 (137,cq),
 (138,cq),
 (139,cq),
 (140,cq),
 (141,{ size:=5,agg:=true,zero:=[.string ⟨#[]⟩,.string ⟨#[]⟩,.string ⟨#[]⟩,.string ⟨#[]⟩,.string ⟨#[]⟩],bytes:=80 }),
 (142,cq),
 (143,cq),
 (144,WA),
 (145,cq),
 (146,cq),
 (147,cq),
 (148,cq),
 (149,cq),
 (150,cq),
 (151,cq),
 (152,cq),
 (153,cq),
 (154,cq),
 (155,cq),
 (156,cq),
 (157,cq),
 (158,cq),
 (159,cq),
 (160,cq),
 (161,cq),
 (162,cq),
 (163,cq),
 (164,cq),
 (165,cq),
 (166,cq),
 (167,cq),
 (168,cq),
 (169,YS),
 (170,YS),
 (172,cq),
 (173,cq),
 (174,cq),
 (175,cq),
 (177,cq),
 (179,cq),
 (181,cq),
 (182,cq),
 (183,cq),
 (185,cq),
 (186,cq),
 (187,cq),
 (188,cq),
 (189,cq),
 (190,cq),
 (191,cq),
 (192,cq),
 (193,cq),
 (194,JE),
 (195,cq),
 (196,cq),
 (197,cq),
 (198,cq),
 (199,cq),
 (200,WB),
 (201,WB),
 (203,cq),
 (204,cq),
 (205,cq),
 (206,cq),
 (207,cq),
 (208,cq),
 (209,YR),
 (210,{ size:=2,agg:=true,zero:=[.int .i64 0,.int .i64 0],bytes:=16 }),
 (212,cq),
 (214,cq),
 (215,cq),
 (216,cq),
 (217,WA),
 (218,cq),
 (219,{ size:=3,agg:=true,zero:=[.string ⟨#[]⟩,.string ⟨#[]⟩,.string ⟨#[]⟩],bytes:=48 }),
 (221,cq),
 (222,cq),
 (223,cq),
 (224,cq),
 (226,cq),
 (227,cq),
 (228,cq),
 (229,cq),
 (230,cq),
 (231,WC),
 (232,WC),
 (234,cq),
 (235,cq),
 (236,cq),
 (237,cq),
 (238,cq),
 (239,cq),
 (240,cq),
 (241,cq),
 (242,cq),
 (243,cq),
 (244,cq),
 (245,JE),
 (246,cq),
 (247,cq),
 (248,cq),
 (249,cq),
 (250,cq),
 (251,cq),
 (252,cq),
 (253,cq),
 (255,cq),
 (256,{ size:=24,agg:=true,zero:=[.int .u8 0,.int .u8 0,.int .u8 0,.int .u8 0,.int .u8 0,.int .u8 0,.int .u8 0,.int .u8 0,.int .u8 0,.int .u8 0,.int .u8 0,.int .u8 0,.int .u8 0,.int .u8 0,.int .u8 0,.int .u8 0,.int .u8 0,.int .u8 0,.int .u8 0,.int .u8 0,.int .u8 0,.int .u8 0,.int .u8 0,.int .u8 0],bytes:=24 }),
 (257,YR),
 (258,cq),
 (259,cq),
 (261,cq),
 (262,cq),
 (263,cq),
 (264,cq),
 (265,cq),
 (266,cq),
 (267,{ size:=20,agg:=true,zero:=[.int .u64 0,.int .u64 0,.int .u64 0,.int .u64 0,.int .u64 0,.int .u64 0,.int .u64 0,.int .u64 0,.int .u64 0,.int .u64 0,.int .u64 0,.int .u64 0,.int .u64 0,.int .u64 0,.int .u64 0,.int .u64 0,.int .u64 0,.int .u64 0,.int .u64 0,.int .u64 0],bytes:=160 }),
 (268,{ size:=1,agg:=false,zero:=[.int .u32 0],bytes:=4 }),
 (269,{ size:=65,agg:=true,zero:=[.int .u8 0,.int .u8 0,.int .u8 0,.int .u8 0,.int .u8 0,.int .u8 0,.int .u8 0,.int .u8 0,.int .u8 0,.int .u8 0,.int .u8 0,.int .u8 0,.int .u8 0,.int .u8 0,.int .u8 0,.int .u8 0,.int .u8 0,.int .u8 0,.int .u8 0,.int .u8 0,.int .u8 0,.int .u8 0,.int .u8 0,.int .u8 0,.int .u8 0,.int .u8 0,.int .u8 0,.int .u8 0,.int .u8 0,.int .u8 0,.int .u8 0,.int .u8 0,.int .u8 0,.int .u8 0,.int .u8 0,.int .u8 0,.int .u8 0,.int .u8 0,.int .u8 0,.int .u8 0,.int .u8 0,.int .u8 0,.int .u8 0,.int .u8 0,.int .u8 0,.int .u8 0,.int .u8 0,.int .u8 0,.int .u8 0,.int .u8 0,.int .u8 0,.int .u8 0,.int .u8 0,.int .u8 0,.int .u8 0,.int .u8 0,.int .u8 0,.int .u8 0,.int .u8 0,.int .u8 0,.int .u8 0,.int .u8 0,.int .u8 0,.int .u8 0,.int .u8 0],bytes:=65 }),
 (270,cq),
 (271,cq),
 (273,cq),
 (274,cq),
 (275,cq),
 (277,cq),
 (278,WD),
 (279,{ size:=64,agg:=true,zero:=[.int .u8 0,.int .u8 0,.int .u8 0,.int .u8 0,.int .u8 0,.int .u8 0,.int .u8 0,.int .u8 0,.int .u8 0,.int .u8 0,.int .u8 0,.int .u8 0,.int .u8 0,.int .u8 0,.int .u8 0,.int .u8 0,.int .u8 0,.int .u8 0,.int .u8 0,.int .u8 0,.int .u8 0,.int .u8 0,.int .u8 0,.int .u8 0,.int .u8 0,.int .u8 0,.int .u8 0,.int .u8 0,.int .u8 0,.int .u8 0,.int .u8 0,.int .u8 0,.int .u8 0,.int .u8 0,.int .u8 0,.int .u8 0,.int .u8 0,.int .u8 0,.int .u8 0,.int .u8 0,.int .u8 0,.int .u8 0,.int .u8 0,.int .u8 0,.int .u8 0,.int .u8 0,.int .u8 0,.int .u8 0,.int .u8 0,.int .u8 0,.int .u8 0,.int .u8 0,.int .u8 0,.int .u8 0,.int .u8 0,.int .u8 0,.int .u8 0,.int .u8 0,.int .u8 0,.int .u8 0,.int .u8 0,.int .u8 0,.int .u8 0,.int .u8 0],bytes:=64 }),
 (281,WE),
 (282,WE),
 (283,WD),
 (284,WH),
 (285,WH),
 (286,YU),
 (287,YU),
 (288,YU),
 (289,Uw),
 (290,Uw),
 (291,cq),
 (292,YT),
 (293,YT),
 (294,WI),
 (295,WI)]
def tt:Table:=tg tab
theorem tt_ok:TT aj tt:=tt_of (P:=aj) (l:=tab) (by kernel_rfl)
theorem cu:aj.follows .mixedOrders=true:=by kernel_rfl
theorem tt3:tt 3=some { size:=1,agg:=false,zero:=[.int .i64 0],bytes:=8 }:=by kernel_rfl
theorem tt4:tt 4=some { size:=1,agg:=false,zero:=[.bool false],bytes:=1 }:=by kernel_rfl
theorem tt5:tt 5=some { size:=1,agg:=false,zero:=[.int .u8 0],bytes:=1 }:=by kernel_rfl
theorem tt9:tt 9=some { size:=1,agg:=false,zero:=[.string ⟨#[]⟩],bytes:=16 }:=by kernel_rfl
theorem aiR:tt 22=some { size:=1,agg:=false,zero:=[.slice none 0 0],elem:=some 25,bytes:=24 }:=by kernel_rfl
theorem aiS:tt 23=some { size:=1,agg:=false,zero:=[.slice none 0 0],elem:=some 95,bytes:=24 }:=by kernel_rfl
theorem aiT:tt 25=some { size:=5,agg:=true,zero:=[.int .i64 0,.string ⟨#[]⟩,.string ⟨#[]⟩,.slice none 0 0,.slice none 0 0],bD:=[(0,1),(1,1),(2,1),(3,1),(4,1)],bytes:=88 }:=by kernel_rfl
theorem aiU:tt 26=some { size:=1,agg:=false,zero:=[.slice none 0 0],elem:=some 100,bytes:=24 }:=by kernel_rfl
theorem aiV:tt 27=some { size:=1,agg:=false,zero:=[.slice none 0 0],elem:=some 29,bytes:=24 }:=by kernel_rfl
theorem aiW:tt 29=some { size:=8,agg:=true,zero:=[.int .i64 0,.string ⟨#[]⟩,.string ⟨#[]⟩,.string ⟨#[]⟩,.int .i64 0,.slice none 0 0,.slice none 0 0,.slice none 0 0],bD:=[(0,1),(1,1),(2,1),(3,1),(4,1),(5,1),(6,1),(7,1)],bytes:=136 }:=by kernel_rfl
theorem aiX:tt 30=some { size:=1,agg:=false,zero:=[.slice none 0 0],elem:=some 84,bytes:=24 }:=by kernel_rfl
theorem aiY:tt 31=some { size:=1,agg:=false,zero:=[.slice none 0 0],elem:=some 80,bytes:=24 }:=by kernel_rfl
theorem aiZ:tt 33=some { size:=3,agg:=true,zero:=[.string ⟨#[]⟩,.slice none 0 0,.slice none 0 0],bD:=[(0,1),(1,1),(2,1)],bytes:=64 }:=by kernel_rfl
theorem ai0:tt 36=some { size:=1,agg:=false,zero:=[.int .i64 0],bytes:=8 }:=by kernel_rfl
theorem ai1:tt 50=some { size:=1,agg:=false,zero:=[.nilFunc],bytes:=8 }:=by kernel_rfl
theorem ai2:tt 53=some { size:=1,agg:=false,zero:=[.slice none 0 0],elem:=some 58,bytes:=24 }:=by kernel_rfl
theorem ai3:tt 58=some { size:=3,agg:=true,zero:=[.int .i64 0,.string ⟨#[]⟩,.int .i64 0],bD:=[(0,1),(1,1),(2,1)],bytes:=32 }:=by kernel_rfl
theorem ai4:tt 59=some { size:=1,agg:=false,zero:=[.nilFunc],bytes:=8 }:=by kernel_rfl
theorem ai5:tt 62=some { size:=1,agg:=false,zero:=[.nilFunc],bytes:=8 }:=by kernel_rfl
theorem ai6:tt 68=some { size:=1,agg:=false,zero:=[.pointer none],bytes:=8 }:=by kernel_rfl
theorem ai7:tt 78=some { size:=1,agg:=false,zero:=[.slice none 0 0],elem:=some 123,bytes:=24 }:=by kernel_rfl
theorem ai8:tt 80=some { size:=31,agg:=true,zero:=[.int .i64 0,.string ⟨#[]⟩,.bool false,.bool false,.string ⟨#[]⟩,.slice none 0 0,.int .i64 0,.string ⟨#[]⟩,.string ⟨#[]⟩,.slice none 0 0,.slice none 0 0,.int .i64 0,.string ⟨#[]⟩,.string ⟨#[]⟩,.slice none 0 0,.slice none 0 0,.int .i64 0,.string ⟨#[]⟩,.string ⟨#[]⟩,.slice none 0 0,.slice none 0 0,.int .i64 0,.string ⟨#[]⟩,.string ⟨#[]⟩,.string ⟨#[]⟩,.int .i64 0,.slice none 0 0,.slice none 0 0,.slice none 0 0,.string ⟨#[]⟩,.string ⟨#[]⟩],bD:=[(0,1),(1,1),(2,1),(3,1),(4,1),(5,1),(6,5),(11,5),(16,5),(21,8),(29,1),(30,1)],bytes:=504 }:=by kernel_rfl
theorem ai9:tt 84=some { size:=2,agg:=true,zero:=[.string ⟨#[]⟩,.string ⟨#[]⟩],bD:=[(0,1),(1,1)],bytes:=32 }:=by kernel_rfl
theorem aja:tt 95=some { size:=7,agg:=true,zero:=[.string ⟨#[]⟩,.int .i64 0,.string ⟨#[]⟩,.string ⟨#[]⟩,.slice none 0 0,.slice none 0 0,.bool false],bD:=[(0,1),(1,5),(6,1)],bytes:=112 }:=by kernel_rfl
theorem adu:tt 100=some { size:=8,agg:=true,zero:=[.string ⟨#[]⟩,.string ⟨#[]⟩,.int .i64 0,.string ⟨#[]⟩,.string ⟨#[]⟩,.slice none 0 0,.slice none 0 0,.bool false],bD:=[(0,1),(1,1),(2,5),(7,1)],bytes:=128 }:=by kernel_rfl
theorem adv:tt 115=some { size:=1,agg:=false,zero:=[.slice none 0 0],elem:=some 118,bytes:=24 }:=by kernel_rfl
theorem adw:tt 118=some { size:=2,agg:=true,zero:=[.string ⟨#[]⟩,.string ⟨#[]⟩],bD:=[(0,1),(1,1)],bytes:=32 }:=by kernel_rfl
theorem adx:tt 119=some { size:=1,agg:=false,zero:=[.slice none 0 0],elem:=some 9,bytes:=24 }:=by kernel_rfl
theorem ady:tt 123=some { size:=7,agg:=true,zero:=[.string ⟨#[]⟩,.int .i64 0,.int .i64 0,.string ⟨#[]⟩,.string ⟨#[]⟩,.slice none 0 0,.slice none 0 0],bD:=[(0,1),(1,1),(2,5)],bytes:=112 }:=by kernel_rfl
theorem P0:tt 125=some { size:=1,agg:=false,zero:=[.slice none 0 0],elem:=some 5,bytes:=24 }:=by kernel_rfl
theorem WK:tt 127=some { size:=2,agg:=true,zero:=[.pointer none,.slice none 0 0],bD:=[(0,1),(1,1)],bytes:=32 }:=by kernel_rfl
theorem WL:tt 129=some { size:=2,agg:=true,zero:=[.pointer none,.slice none 0 0],bD:=[(0,2)],bytes:=32 }:=by kernel_rfl
theorem adz:tt 141=some { size:=5,agg:=true,zero:=[.string ⟨#[]⟩,.string ⟨#[]⟩,.string ⟨#[]⟩,.string ⟨#[]⟩,.string ⟨#[]⟩],bytes:=80 }:=by kernel_rfl
theorem adA:tt 144=some { size:=1,agg:=false,zero:=[.map none],bytes:=8 }:=by kernel_rfl
theorem AX:tt 201=some { size:=4,agg:=true,zero:=[.string ⟨#[]⟩,.int .i64 0,.bool false,.int .i64 0],bD:=[(0,1),(1,1),(2,1),(3,1)],bytes:=40 }:=by kernel_rfl
theorem adB:tt 210=some { size:=2,agg:=true,zero:=[.int .i64 0,.int .i64 0],bytes:=16 }:=by kernel_rfl
theorem adC:tt 219=some { size:=3,agg:=true,zero:=[.string ⟨#[]⟩,.string ⟨#[]⟩,.string ⟨#[]⟩],bytes:=48 }:=by kernel_rfl
theorem adD:tt 232=some { size:=9,agg:=true,zero:=[.bool false,.bool false,.bool false,.bool false,.bool false,.bool false,.bool false,.int .i64 0,.bool false],bD:=[(0,1),(1,1),(2,1),(3,1),(4,1),(5,1),(6,1),(7,1),(8,1)],bytes:=24 }:=by kernel_rfl
theorem gL (f:FuncId) (fn:Func) (body:Code) (hf:aj.funcs[f]?=some fn) (hb:fn.body=some body) (xs:Array Value) (w:World):(callFunc f xs).run aj w = .ok (.enter f xs) w:=PY (by kernel_rfl) f fn body hf hb xs w
def P1:GV:=YO [
 (7,5,0,[⟨.r,0,[],[],[]⟩,⟨.r,0,[],[],[]⟩,⟨.n,0,[],[1],[]⟩,⟨.n,0,[],[0,1,2],[]⟩,⟨.e,904,[],[0,1,2,3],[]⟩]),
 (16,10,0,[pN,pN,⟨.r,0,[],[],[]⟩,pN,pN,pN,⟨.r,0,[],[],[]⟩,pN,pN,pN]),
 (5,6,0,[⟨.r,0,[],[],[]⟩,pN,pN,⟨.r,0,[],[1,2],[]⟩,⟨.r,0,[],[1,2,3],[]⟩,⟨.z,0,[],[0,1,2,3,4],[]⟩]),
 (4,7,0,[pN,⟨.n,0,[],[0],[]⟩,pN,⟨.n,0,[],[0,1,2],[]⟩,⟨.r,0,[],[],[]⟩,⟨.n,0,[],[0,1,2,3],[]⟩,⟨.e,906,[],[0,1,2,3,4,5],[]⟩]),
 (7,4,0,[pN,⟨.r,0,[],[],[]⟩,⟨.n,0,[],[0],[]⟩,⟨.e,903,[],[0,1,2],[]⟩]),
 (4,9,0,[pN,⟨.r,0,[],[0],[]⟩,pN,⟨.r,0,[],[2],[]⟩,⟨.r,0,[],[],[]⟩,⟨.n,0,[],[4],[]⟩,⟨.n,0,[],[0,1,4,5],[]⟩,⟨.n,0,[],[0,1,2,3,4,5,6],[]⟩,⟨.e,908,[],[0,1,2,3,4,5,6,7],[]⟩]),
 (9,8,0,[⟨.r,0,[],[],[]⟩,⟨.r,0,[],[],[]⟩,⟨.n,0,[],[1],[]⟩,⟨.n,0,[],[0,1,2],[]⟩,⟨.n,0,[],[0,1,2,3],[]⟩,⟨.n,0,[],[0,1,2,3],[]⟩,⟨.e,906,[],[0,1,2,3,4,5],[]⟩,⟨.e,907,[],[0,1,2,3,4,5,6],[]⟩]),
 (10,5,0,[pN,pN,pN,⟨.r,0,[],[],[]⟩,pN]),
 (21,22,0,[pN,pN,pN,pN,⟨.r,0,[],[],[]⟩,⟨.r,0,[],[],[]⟩,pN,pN,pN,pN,pN,pN,⟨.r,0,[],[],[]⟩,⟨.r,0,[],[],[]⟩,pN,⟨.r,0,[],[],[]⟩,pN,pN,⟨.r,0,[],[],[]⟩,⟨.r,0,[],[],[]⟩,pN,pN]),
 (22,13,0,[pN,pN,⟨.r,0,[],[0,1],[]⟩,⟨.r,0,[],[0,1,2],[]⟩,⟨.n,0,[],[0,1,2,3],[]⟩,pN,pN,⟨.r,0,[],[5,6],[910]⟩,⟨.r,0,[],[5,6,7],[910]⟩,⟨.n,0,[],[5,6,7,8],[]⟩,⟨.e,910,[],[0,1,2,3,4],[]⟩,⟨.n,0,[],[0,1,2,3,4,5,6,7,8,9,10],[]⟩,⟨.n,0,[],[0,1,2,3,4,5,6,7,8,9,10,11],[]⟩]),
 (2,3,0,[⟨.r,0,[],[],[]⟩,pN,⟨.e,902,[],[0,1],[]⟩]),
 (16,10,0,[pN,⟨.n,0,[],[0],[]⟩,⟨.n,0,[],[0,1],[]⟩,⟨.r,0,[],[0,1,2],[]⟩,⟨.n,0,[],[0,1,2],[]⟩,⟨.n,0,[],[0,1,2],[]⟩,⟨.r,0,[],[0,1,2,4,5],[]⟩,⟨.r,0,[],[0,1,2,4,5,6],[]⟩,⟨.z,0,[],[0,1,2,3,4,5,6,7],[]⟩,⟨.n,0,[],[0,1,2,3,4,5,6,7,8],[]⟩]),
 (18,11,0,[pN,pN,⟨.r,0,[],[0,1],[]⟩,⟨.r,0,[],[0,1,2],[]⟩,⟨.r,0,[],[],[]⟩,⟨.r,0,[],[],[]⟩,⟨.n,0,[],[4,5],[]⟩,⟨.n,0,[],[0,1,2,3,4,5,6],[]⟩,⟨.r,0,[],[],[909]⟩,⟨.e,909,[],[0,1,2,3,4,5,6,7],[]⟩,⟨.e,910,[],[0,1,2,3,4,5,6,7,8,9],[]⟩]),
 (22,4,0,[⟨.r,0,[],[],[]⟩,⟨.r,0,[],[],[902]⟩,⟨.e,902,[],[0],[]⟩,⟨.e,903,[],[0,1,2],[]⟩]),
 (14,4,0,[⟨.r,0,[],[],[]⟩,⟨.r,0,[],[],[902]⟩,⟨.e,902,[],[0],[]⟩,⟨.e,903,[],[0,1,2],[]⟩]),
 (7,18,1,[pN,pN,pN,pN,pN,pN,pN,pN,⟨.r,0,[],[],[]⟩,⟨.r,0,[],[],[]⟩,pN,pN,pN,pN,pN,pN,⟨.r,0,[],[],[]⟩,⟨.w,0,[],[],[]⟩]),
 (34,10,0,[pN,⟨.r,0,[],[0],[]⟩,⟨.n,0,[],[0,1],[]⟩,⟨.n,0,[],[0,1,2],[]⟩,pN,⟨.r,0,[],[4],[]⟩,⟨.n,0,[],[0,1,2,4,5],[]⟩,⟨.n,0,[],[0,1,2,4,5,6],[]⟩,⟨.e,908,[],[0,1,2,3,4,5,6],[]⟩,⟨.n,0,[],[0,1,2,3,4,5,6,7,8],[]⟩]),
 (5,5,0,[pN,⟨.n,0,[],[0],[]⟩,⟨.r,0,[],[],[903]⟩,⟨.e,903,[],[0,1],[]⟩,⟨.e,904,[],[0,1,2,3],[]⟩]),
 (8,4,0,[⟨.r,0,[],[],[]⟩,⟨.r,0,[],[],[902]⟩,⟨.e,902,[],[0],[]⟩,⟨.e,903,[],[0,1,2],[]⟩]),
 (25,5,0,[⟨.r,0,[],[],[]⟩,⟨.r,0,[],[],[]⟩,⟨.n,0,[],[1],[]⟩,⟨.e,903,[],[0,1,2],[]⟩,⟨.e,904,[],[0,1,2,3],[]⟩]),
 (9,4,0,[⟨.r,0,[],[],[]⟩,⟨.r,0,[],[],[902]⟩,⟨.e,902,[],[0],[]⟩,⟨.e,903,[],[0,1,2],[]⟩])]
theorem cK {nat:qP} {ny:FuncId→List V→Option V} (EH:rB aj ny) (uh:nC aj nat) (n:Nat) {f:FuncId} {vs:List V} {r:V} (h:Dm aj tt (ev aj tt P1 nat ny noM n) f vs=some r):b8 aj f vs r:=Wl tt_ok cu gL EH YL uh n h
theorem P2 {nat:qP} {ny:FuncId→List V→Option V} {tM:l9} (EH:rB aj ny) (PX:kP aj tM) (uh:nC aj nat) (n:Nat) {f:FuncId} {vs:List V} {r:V} (h:Dm aj tt (ev aj tt P1 nat ny tM n) f vs=some r):b8 aj f vs r:=Wl tt_ok cu gL EH PX uh n h
theorem sy {nat:qP} {ny:FuncId→List V→Option V} {tM:l9} (EH:rB aj ny) (PX:kP aj tM) (uh:nC aj nat) (n:Nat) {f:FuncId} {vs:List V} {mem:List bx} {outs:List (V×List bx)} (h:Un aj tt (ev aj tt P1 nat ny tM n) f vs mem=some outs):jK aj f vs mem fun r m=>(r,m)∈outs:=YM tt_ok cu gL EH PX uh n h
noncomputable def adE:qP:=fun f vs=>if f=300 then JD vs else Yg aj f vs
theorem cB (hG:bB.g=some 0):nC aj adE:=fun f vs r h=>by
 unfold adE at h;split at h;·rename_i hf;subst hf;exact MX (fn:=Tryz.f300) (by kernel_rfl) (by kernel_rfl) (by kernel_rfl) (by kernel_rfl) (by kernel_rfl) (fun w=>by simp only [globalAddr,program,Sem.run_bind];show (match aj.globals.findIdx? (fun x=>x.name == "internal/bytealg.MaxLen") with|some g=>_|none=>_:Sem Addr).run aj w=_;rw [show aj.globals.findIdx? (fun x=>x.name == "internal/bytealg.MaxLen")=some 0 from by kernel_rfl];rfl) hG h
 exact TS h
end Go.Proofs.YtfbbfmcggbapoaaGreatDoor
end
