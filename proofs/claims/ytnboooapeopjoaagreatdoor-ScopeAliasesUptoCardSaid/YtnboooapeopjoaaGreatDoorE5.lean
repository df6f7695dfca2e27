import Derived.Test.YtnboooapeopjoaaGreatDoorE4
import Derived.Test.YtnboooapeopjoaaGreatDoorProg
import Derived.KernelRfl
open Go.Proofs.Tryz renaming prog→ab
set_option linter.all false
section
namespace Go.Proofs.YtnboooapeopjoaaGreatDoor
open Go.Eng
variable [a6]
set_option maxHeartbeats 4000000
set_option maxRecDepth 100000
abbrev pN:Pl:=⟨.n,0,[],[],[]⟩
def bT:Ti := { size:=1,agg:=false,zero:=[.nilFunc],bytes:=8 }
def Cq:Ti := { size:=1,agg:=false,zero:=[.pointer none],bytes:=8 }
def RG:Ti := { size:=1,agg:=false,zero:=[.int .i64 0],bytes:=8 }
def RH:Ti := { size:=1,agg:=false,zero:=[.int .u8 0],bytes:=1 }
def RI:Ti := { size:=1,agg:=false,zero:=[.int .u64 0],bytes:=8 }
def RJ:Ti := { size:=2,agg:=true,zero:=[.string ⟨#[]⟩,.string ⟨#[]⟩],bd:=[(0,1),(1,1)],bytes:=32 }
def V9:Ti := { size:=1,agg:=false,zero:=[.string ⟨#[]⟩],bytes:=16 }
def Wa:Ti := { size:=1,agg:=false,zero:=[.int .i32 0],bytes:=4 }
def Wb:Ti := { size:=1,agg:=false,zero:=[.map none],bytes:=8 }
def Wc:Ti := { size:=0,agg:=true,zero:=[],bytes:=0 }
def TU:Ti := { size:=4,agg:=true,zero:=[.int .i64 0,.int .i64 0,.bool false,.int .u8 0],bd:=[(0,1),(1,1),(2,1),(3,1)],bytes:=24 }
def TV:Ti := { size:=2,agg:=true,zero:=[.string ⟨#[]⟩,.int .u64 0],bd:=[(0,1),(1,1)],bytes:=24 }
def TW:Ti := { size:=1,agg:=true,zero:=[.pointer none],bd:=[(0,1)],bytes:=8 }
def TX:Ti := { size:=3,agg:=true,zero:=[.string ⟨#[]⟩,.slice none 0 0,.slice none 0 0],bd:=[(0,1),(1,1),(2,1)],bytes:=64 }
def TY:Ti := { size:=5,agg:=true,zero:=[.int .i64 0,.string ⟨#[]⟩,.string ⟨#[]⟩,.slice none 0 0,.slice none 0 0],bd:=[(0,1),(1,1),(2,1),(3,1),(4,1)],bytes:=88 }
def TZ:Ti := { size:=8,agg:=true,zero:=[.int .i64 0,.string ⟨#[]⟩,.string ⟨#[]⟩,.string ⟨#[]⟩,.int .i64 0,.slice none 0 0,.slice none 0 0,.slice none 0 0],bd:=[(0,1),(1,1),(2,1),(3,1),(4,1),(5,1),(6,1),(7,1)],bytes:=136 }
def T0:Ti := { size:=31,agg:=true,zero:=[.int .i64 0,.string ⟨#[]⟩,.bool false,.bool false,.string ⟨#[]⟩,.slice none 0 0,.int .i64 0,.string ⟨#[]⟩,.string ⟨#[]⟩,.slice none 0 0,.slice none 0 0,.int .i64 0,.string ⟨#[]⟩,.string ⟨#[]⟩,.slice none 0 0,.slice none 0 0,.int .i64 0,.string ⟨#[]⟩,.string ⟨#[]⟩,.slice none 0 0,.slice none 0 0,.int .i64 0,.string ⟨#[]⟩,.string ⟨#[]⟩,.string ⟨#[]⟩,.int .i64 0,.slice none 0 0,.slice none 0 0,.slice none 0 0,.string ⟨#[]⟩,.string ⟨#[]⟩],bd:=[(0,1),(1,1),(2,1),(3,1),(4,1),(5,1),(6,5),(11,5),(16,5),(21,8),(29,1),(30,1)],bytes:=504 }
def T1:Ti := { size:=7,agg:=true,zero:=[.string ⟨#[]⟩,.int .i64 0,.int .i64 0,.string ⟨#[]⟩,.string ⟨#[]⟩,.slice none 0 0,.slice none 0 0],bd:=[(0,1),(1,1),(2,5)],bytes:=112 }
def T2:Ti := { size:=6,agg:=true,zero:=[.string ⟨#[]⟩,.slice none 0 0,.slice none 0 0,.int .i64 0,.slice none 0 0,.slice none 0 0],bd:=[(0,3),(3,1),(4,1),(5,1)],bytes:=120 }
def T3:Ti := { size:=7,agg:=true,zero:=[.string ⟨#[]⟩,.int .i64 0,.string ⟨#[]⟩,.string ⟨#[]⟩,.slice none 0 0,.slice none 0 0,.bool false],bd:=[(0,1),(1,5),(6,1)],bytes:=112 }
def T4:Ti := { size:=8,agg:=true,zero:=[.string ⟨#[]⟩,.string ⟨#[]⟩,.int .i64 0,.string ⟨#[]⟩,.string ⟨#[]⟩,.slice none 0 0,.slice none 0 0,.bool false],bd:=[(0,1),(1,1),(2,5),(7,1)],bytes:=128 }
def T5:Ti := { size:=4,agg:=true,zero:=[.slice none 0 0,.int .i64 0,.int .i64 0,.int .i64 0],bd:=[(0,1),(1,1),(2,1),(3,1)],bytes:=48 }
def T6:Ti := { size:=3,agg:=true,zero:=[.int .i64 0,.string ⟨#[]⟩,.int .i64 0],bd:=[(0,1),(1,1),(2,1)],bytes:=32 }
def T7:Ti := { size:=9,agg:=true,zero:=[.string ⟨#[]⟩,.slice none 0 0,.slice none 0 0,.int .i64 0,.slice none 0 0,.int .i64 0,.nilFunc,.nilFunc,.nilFunc],bd:=[(0,3),(3,1),(4,1),(5,1),(6,1),(7,1),(8,1)],bytes:=128 }
def T8:Ti := { size:=2,agg:=true,zero:=[.string ⟨#[]⟩,.pointer none],bd:=[(0,1),(1,1)],bytes:=24 }
def T9:Ti := { size:=4,agg:=true,zero:=[.string ⟨#[]⟩,.int .i64 0,.bool false,.int .i64 0],bd:=[(0,1),(1,1),(2,1),(3,1)],bytes:=40 }
def Ua:Ti := { size:=9,agg:=true,zero:=[.bool false,.bool false,.bool false,.bool false,.bool false,.bool false,.bool false,.int .i64 0,.bool false],bd:=[(0,1),(1,1),(2,1),(3,1),(4,1),(5,1),(6,1),(7,1),(8,1)],bytes:=24 }
def Ub:Ti := { size:=32,agg:=true,zero:=[.int .u8 0,.int .u8 0,.int .u8 0,.int .u8 0,.int .u8 0,.int .u8 0,.int .u8 0,.int .u8 0,.int .u8 0,.int .u8 0,.int .u8 0,.int .u8 0,.int .u8 0,.int .u8 0,.int .u8 0,.int .u8 0,.int .u8 0,.int .u8 0,.int .u8 0,.int .u8 0,.int .u8 0,.int .u8 0,.int .u8 0,.int .u8 0,.int .u8 0,.int .u8 0,.int .u8 0,.int .u8 0,.int .u8 0,.int .u8 0,.int .u8 0,.int .u8 0],bytes:=32 }
def Uc:Ti := { size:=2,agg:=true,zero:=[.int .u8 0,.int .u8 0],bd:=[(0,1),(1,1)],bytes:=2 }
def Ud:Ti := { size:=4,agg:=true,zero:=[.pointer none,.pointer none,.pointer none,.string ⟨#[]⟩],bd:=[(0,1),(1,1),(2,1),(3,1)],bytes:=40 }
def Ue:Ti := { size:=11,agg:=true,zero:=[.int .u64 0,.int .u64 0,.int .u32 0,.int .u8 0,.int .u8 0,.int .u8 0,.int .u8 0,.nilFunc,.pointer none,.int .i32 0,.int .i32 0],bd:=[(0,1),(1,1),(2,1),(3,1),(4,1),(5,1),(6,1),(7,1),(8,1),(9,1),(10,1)],bytes:=48 }
def tab:List (Nat×Ti):=[
 (1,bT),
 (2,RG),
 (3,RG),
 (4,{ size:=1,agg:=false,zero:=[.bool false],bytes:=1 }),
 (5,RH),
 (6,RH),
 (7,TU),
 (8,TU),
 (9,V9),
 (10,V9),
 (11,V9),
 (12,RI),
 (13,TV),
 (14,TV),
 (15,Cq),
 (16,Cq),
 (17,Cq),
 (18,TW),
 (19,TW),
 (20,{ size:=1,agg:=false,zero:=[.nilIface],bytes:=16 }),
 (21,Wa),
 (22,{ size:=1,agg:=false,zero:=[.slice none 0 0],elem:=some 35,bytes:=24 }),
 (23,{ size:=1,agg:=false,zero:=[.slice none 0 0],elem:=some 47,bytes:=24 }),
 (24,TX),
 (25,TX),
 (26,bT),
 (27,bT),
 (28,RG),
 (30,bT),
 (31,bT),
 (32,bT),
 (33,bT),
 (34,RJ),
 (35,RJ),
 (36,{ size:=1,agg:=false,zero:=[.slice none 0 0],elem:=some 9,bytes:=24 }),
 (37,{ size:=1,agg:=false,zero:=[.slice none 0 0],elem:=some 49,bytes:=24 }),
 (38,{ size:=1,agg:=false,zero:=[.slice none 0 0],elem:=some 41,bytes:=24 }),
 (39,{ size:=1,agg:=false,zero:=[.slice none 0 0],elem:=some 94,bytes:=24 }),
 (40,TY),
 (41,TY),
 (42,{ size:=1,agg:=false,zero:=[.slice none 0 0],elem:=some 97,bytes:=24 }),
 (43,{ size:=1,agg:=false,zero:=[.slice none 0 0],elem:=some 45,bytes:=24 }),
 (44,TZ),
 (45,TZ),
 (46,T0),
 (47,T0),
 (48,T1),
 (49,T1),
 (50,bT),
 (51,bT),
 (52,bT),
 (53,bT),
 (54,bT),
 (55,bT),
 (56,bT),
 (57,bT),
 (58,bT),
 (59,bT),
 (60,bT),
 (61,bT),
 (62,bT),
 (63,bT),
 (64,bT),
 (65,bT),
 (67,bT),
 (68,bT),
 (69,Cq),
 (70,bT),
 (72,bT),
 (73,bT),
 (74,T2),
 (75,T2),
 (76,bT),
 (77,{ size:=1,agg:=false,zero:=[.slice none 0 0],elem:=some 80,bytes:=24 }),
 (78,bT),
 (79,RJ),
 (80,RJ),
 (81,bT),
 (82,bT),
 (83,bT),
 (84,bT),
 (85,bT),
 (86,bT),
 (87,bT),
 (88,bT),
 (89,bT),
 (90,bT),
 (91,bT),
 (92,bT),
 (93,T3),
 (94,T3),
 (95,bT),
 (96,T4),
 (97,T4),
 (98,bT),
 (99,bT),
 (100,bT),
 (101,bT),
 (102,{ size:=1,agg:=false,zero:=[.slice none 0 0],elem:=some 116,bytes:=24 }),
 (103,T5),
 (104,T5),
 (105,bT),
 (106,{ size:=1,agg:=false,zero:=[.slice none 0 0],elem:=some 3,bytes:=24 }),
 (108,bT),
 (109,bT),
 (110,bT),
 (111,bT),
 (113,bT),
 (114,bT),
 (115,T6),
 (116,T6),
 (118,bT),
 (119,bT),
 (120,bT),
 (121,bT),
 (122,bT),
 (123,bT),
 (124,bT),
 (125,bT),
 (126,bT),
 (127,bT),
 (128,Wb),
 (130,bT),
 (131,bT),
 (132,bT),
 (133,bT),
 (134,T7),
 (135,T7),
 (136,bT),
 (137,bT),
 (138,bT),
 (140,bT),
 (142,bT),
 (144,bT),
 (145,bT),
 (146,bT),
 (147,bT),
 (148,bT),
 (149,bT),
 (150,bT),
 (151,bT),
 (152,bT),
 (153,bT),
 (155,bT),
 (156,bT),
 (157,bT),
 (159,bT),
 (161,bT),
 (163,bT),
 (164,Wb),
 (165,bT),
 (166,bT),
 (167,bT),
 (168,bT),
 (169,bT),
 (170,Cq),
 (171,bT),
 (172,bT),
 (173,bT),
 (174,bT),
 (175,bT),
 (176,bT),
 (177,bT),
 (178,{ size:=1,agg:=false,zero:=[.slice none 0 0],elem:=some 5,bytes:=24 }),
 (179,bT),
 (181,bT),
 (183,bT),
 (185,bT),
 (187,bT),
 (188,bT),
 (189,bT),
 (190,bT),
 (191,bT),
 (192,bT),
 (193,bT),
 (194,bT),
 (195,bT),
 (196,bT),
 (197,bT),
 (198,Wb),
 (199,bT),
 (200,bT),
 (201,bT),
 (202,bT),
 (203,bT),
 (204,bT),
 (206,bT),
 (207,T8),
 (208,T8),
 (209,bT),
 (210,bT),
 (211,bT),
 (212,bT),
 (213,bT),
 (214,bT),
 (215,bT),
 (216,bT),
 (217,bT),
 (218,bT),
 (219,RI),
 (220,bT),
 (221,bT),
 (222,bT),
 (223,bT),
 (224,bT),
 (225,bT),
 (226,bT),
 (227,bT),
 (228,bT),
 (229,bT),
 (230,bT),
 (231,bT),
 (232,bT),
 (233,T9),
 (234,T9),
 (236,bT),
 (237,bT),
 (238,bT),
 (239,bT),
 (240,bT),
 (242,bT),
 (243,bT),
 (244,bT),
 (245,RG),
 (247,bT),
 (248,bT),
 (249,bT),
 (250,bT),
 (251,bT),
 (252,{ size:=1,agg:=false,zero:=[.int .u32 0],bytes:=4 }),
 (253,bT),
 (254,RI),
 (255,{ size:=24,agg:=true,zero:=[.int .u8 0,.int .u8 0,.int .u8 0,.int .u8 0,.int .u8 0,.int .u8 0,.int .u8 0,.int .u8 0,.int .u8 0,.int .u8 0,.int .u8 0,.int .u8 0,.int .u8 0,.int .u8 0,.int .u8 0,.int .u8 0,.int .u8 0,.int .u8 0,.int .u8 0,.int .u8 0,.int .u8 0,.int .u8 0,.int .u8 0,.int .u8 0],bytes:=24 }),
 (256,bT),
 (258,bT),
 (259,bT),
 (260,bT),
 (261,bT),
 (262,bT),
 (263,bT),
 (264,bT),
 (265,bT),
 (266,Ua),
 (267,Ua),
 (269,bT),
 (270,bT),
 (271,bT),
 (272,bT),
 (273,bT),
 (274,RI),
 (275,bT),
 (276,bT),
 (277,bT),
 (278,Cq),
 (279,bT),
 (280,bT),
 (281,bT),
 (282,{ size:=20,agg:=true,zero:=[.int .u64 0,.int .u64 0,.int .u64 0,.int .u64 0,.int .u64 0,.int .u64 0,.int .u64 0,.int .u64 0,.int .u64 0,.int .u64 0,.int .u64 0,.int .u64 0,.int .u64 0,.int .u64 0,.int .u64 0,.int .u64 0,.int .u64 0,.int .u64 0,.int .u64 0,.int .u64 0],bytes:=160 }),
 (283,{ size:=65,agg:=true,zero:=[.int .u8 0,.int .u8 0,.int .u8 0,.int .u8 0,.int .u8 0,.int .u8 0,.int .u8 0,.int .u8 0,.int .u8 0,.int .u8 0,.int .u8 0,.int .u8 0,.int .u8 0,.int .u8 0,.int .u8 0,.int .u8 0,.int .u8 0,.int .u8 0,.int .u8 0,.int .u8 0,.int .u8 0,.int .u8 0,.int .u8 0,.int .u8 0,.int .u8 0,.int .u8 0,.int .u8 0,.int .u8 0,.int .u8 0,.int .u8 0,.int .u8 0,.int .u8 0,.int .u8 0,.int .u8 0,.int .u8 0,.int .u8 0,.int .u8 0,.int .u8 0,.int .u8 0,.int .u8 0,.int .u8 0,.int .u8 0,.int .u8 0,.int .u8 0,.int .u8 0,.int .u8 0,.int .u8 0,.int .u8 0,.int .u8 0,.int .u8 0,.int .u8 0,.int .u8 0,.int .u8 0,.int .u8 0,.int .u8 0,.int .u8 0,.int .u8 0,.int .u8 0,.int .u8 0,.int .u8 0,.int .u8 0,.int .u8 0,.int .u8 0,.int .u8 0,.int .u8 0],bytes:=65 }),
 (284,bT),
 (285,bT),
 (287,bT),
 (288,bT),
 (289,bT),
 (290,Cq),
 (292,bT),
 (293,Ub),
 (294,{ size:=64,agg:=true,zero:=[.int .u8 0,.int .u8 0,.int .u8 0,.int .u8 0,.int .u8 0,.int .u8 0,.int .u8 0,.int .u8 0,.int .u8 0,.int .u8 0,.int .u8 0,.int .u8 0,.int .u8 0,.int .u8 0,.int .u8 0,.int .u8 0,.int .u8 0,.int .u8 0,.int .u8 0,.int .u8 0,.int .u8 0,.int .u8 0,.int .u8 0,.int .u8 0,.int .u8 0,.int .u8 0,.int .u8 0,.int .u8 0,.int .u8 0,.int .u8 0,.int .u8 0,.int .u8 0,.int .u8 0,.int .u8 0,.int .u8 0,.int .u8 0,.int .u8 0,.int .u8 0,.int .u8 0,.int .u8 0,.int .u8 0,.int .u8 0,.int .u8 0,.int .u8 0,.int .u8 0,.int .u8 0,.int .u8 0,.int .u8 0,.int .u8 0,.int .u8 0,.int .u8 0,.int .u8 0,.int .u8 0,.int .u8 0,.int .u8 0,.int .u8 0,.int .u8 0,.int .u8 0,.int .u8 0,.int .u8 0,.int .u8 0,.int .u8 0,.int .u8 0,.int .u8 0],bytes:=64 }),
 (296,bT),
 (298,Uc),
 (299,Uc),
 (300,Ub),
 (301,bT),
 (302,Ud),
 (303,Ud),
 (304,Wc),
 (305,Wc),
 (306,Wc),
 (307,bT),
 (308,RH),
 (309,RH),
 (310,bT),
 (311,Cq),
 (312,Wa),
 (313,Wa),
 (314,Ue),
 (315,Ue),
 (316,Cq)]
def tt:Table:=rl tab
theorem tt_ok:TT ab tt:=tt_of (P:=ab) (l:=tab) (by kernel_rfl)
theorem bU:ab.follows .mixedOrders=true:=by kernel_rfl

theorem tt3:tt 3=some { size:=1,agg:=false,zero:=[.int .i64 0],bytes:=8 }:=by kernel_rfl
theorem tt4:tt 4=some { size:=1,agg:=false,zero:=[.bool false],bytes:=1 }:=by kernel_rfl
theorem tt9:tt 9=some { size:=1,agg:=false,zero:=[.string ⟨#[]⟩],bytes:=16 }:=by kernel_rfl
theorem afR:tt 22=some { size:=1,agg:=false,zero:=[.slice none 0 0],elem:=some 35,bytes:=24 }:=by kernel_rfl
theorem afS:tt 23=some { size:=1,agg:=false,zero:=[.slice none 0 0],elem:=some 47,bytes:=24 }:=by kernel_rfl
theorem afT:tt 25=some { size:=3,agg:=true,zero:=[.string ⟨#[]⟩,.slice none 0 0,.slice none 0 0],bd:=[(0,1),(1,1),(2,1)],bytes:=64 }:=by kernel_rfl
theorem afU:tt 28=some { size:=1,agg:=false,zero:=[.int .i64 0],bytes:=8 }:=by kernel_rfl
theorem afV:tt 35=some { size:=2,agg:=true,zero:=[.string ⟨#[]⟩,.string ⟨#[]⟩],bd:=[(0,1),(1,1)],bytes:=32 }:=by kernel_rfl
theorem afW:tt 36=some { size:=1,agg:=false,zero:=[.slice none 0 0],elem:=some 9,bytes:=24 }:=by kernel_rfl
theorem afX:tt 37=some { size:=1,agg:=false,zero:=[.slice none 0 0],elem:=some 49,bytes:=24 }:=by kernel_rfl
theorem afY:tt 38=some { size:=1,agg:=false,zero:=[.slice none 0 0],elem:=some 41,bytes:=24 }:=by kernel_rfl
theorem afZ:tt 39=some { size:=1,agg:=false,zero:=[.slice none 0 0],elem:=some 94,bytes:=24 }:=by kernel_rfl
theorem af0:tt 41=some { size:=5,agg:=true,zero:=[.int .i64 0,.string ⟨#[]⟩,.string ⟨#[]⟩,.slice none 0 0,.slice none 0 0],bd:=[(0,1),(1,1),(2,1),(3,1),(4,1)],bytes:=88 }:=by kernel_rfl
theorem af1:tt 42=some { size:=1,agg:=false,zero:=[.slice none 0 0],elem:=some 97,bytes:=24 }:=by kernel_rfl
theorem af2:tt 43=some { size:=1,agg:=false,zero:=[.slice none 0 0],elem:=some 45,bytes:=24 }:=by kernel_rfl
theorem af3:tt 45=some { size:=8,agg:=true,zero:=[.int .i64 0,.string ⟨#[]⟩,.string ⟨#[]⟩,.string ⟨#[]⟩,.int .i64 0,.slice none 0 0,.slice none 0 0,.slice none 0 0],bd:=[(0,1),(1,1),(2,1),(3,1),(4,1),(5,1),(6,1),(7,1)],bytes:=136 }:=by kernel_rfl
theorem af4:tt 47=some { size:=31,agg:=true,zero:=[.int .i64 0,.string ⟨#[]⟩,.bool false,.bool false,.string ⟨#[]⟩,.slice none 0 0,.int .i64 0,.string ⟨#[]⟩,.string ⟨#[]⟩,.slice none 0 0,.slice none 0 0,.int .i64 0,.string ⟨#[]⟩,.string ⟨#[]⟩,.slice none 0 0,.slice none 0 0,.int .i64 0,.string ⟨#[]⟩,.string ⟨#[]⟩,.slice none 0 0,.slice none 0 0,.int .i64 0,.string ⟨#[]⟩,.string ⟨#[]⟩,.string ⟨#[]⟩,.int .i64 0,.slice none 0 0,.slice none 0 0,.slice none 0 0,.string ⟨#[]⟩,.string ⟨#[]⟩],bd:=[(0,1),(1,1),(2,1),(3,1),(4,1),(5,1),(6,5),(11,5),(16,5),(21,8),(29,1),(30,1)],bytes:=504 }:=by kernel_rfl
theorem af5:tt 49=some { size:=7,agg:=true,zero:=[.string ⟨#[]⟩,.int .i64 0,.int .i64 0,.string ⟨#[]⟩,.string ⟨#[]⟩,.slice none 0 0,.slice none 0 0],bd:=[(0,1),(1,1),(2,5)],bytes:=112 }:=by kernel_rfl
theorem af6:tt 52=some { size:=1,agg:=false,zero:=[.nilFunc],bytes:=8 }:=by kernel_rfl
theorem af7:tt 89=some { size:=1,agg:=false,zero:=[.nilFunc],bytes:=8 }:=by kernel_rfl
theorem af8:tt 94=some { size:=7,agg:=true,zero:=[.string ⟨#[]⟩,.int .i64 0,.string ⟨#[]⟩,.string ⟨#[]⟩,.slice none 0 0,.slice none 0 0,.bool false],bd:=[(0,1),(1,5),(6,1)],bytes:=112 }:=by kernel_rfl
theorem af9:tt 97=some { size:=8,agg:=true,zero:=[.string ⟨#[]⟩,.string ⟨#[]⟩,.int .i64 0,.string ⟨#[]⟩,.string ⟨#[]⟩,.slice none 0 0,.slice none 0 0,.bool false],bd:=[(0,1),(1,1),(2,5),(7,1)],bytes:=128 }:=by kernel_rfl
theorem Z0:tt 102=some { size:=1,agg:=false,zero:=[.slice none 0 0],elem:=some 116,bytes:=24 }:=by kernel_rfl
theorem aaa:tt 116=some { size:=3,agg:=true,zero:=[.int .i64 0,.string ⟨#[]⟩,.int .i64 0],bd:=[(0,1),(1,1),(2,1)],bytes:=32 }:=by kernel_rfl
theorem aab:tt 127=some { size:=1,agg:=false,zero:=[.nilFunc],bytes:=8 }:=by kernel_rfl
theorem aac:tt 128=some { size:=1,agg:=false,zero:=[.map none],bytes:=8 }:=by kernel_rfl
theorem aad:tt 131=some { size:=1,agg:=false,zero:=[.nilFunc],bytes:=8 }:=by kernel_rfl
theorem aae:tt 132=some { size:=1,agg:=false,zero:=[.nilFunc],bytes:=8 }:=by kernel_rfl
theorem aaf:tt 133=some { size:=1,agg:=false,zero:=[.nilFunc],bytes:=8 }:=by kernel_rfl
theorem aag:tt 135=some { size:=9,agg:=true,zero:=[.string ⟨#[]⟩,.slice none 0 0,.slice none 0 0,.int .i64 0,.slice none 0 0,.int .i64 0,.nilFunc,.nilFunc,.nilFunc],bd:=[(0,3),(3,1),(4,1),(5,1),(6,1),(7,1),(8,1)],bytes:=128 }:=by kernel_rfl
theorem aah:tt 170=some { size:=1,agg:=false,zero:=[.pointer none],bytes:=8 }:=by kernel_rfl
theorem aai:tt 198=some { size:=1,agg:=false,zero:=[.map none],bytes:=8 }:=by kernel_rfl
theorem aaj:tt 208=some { size:=2,agg:=true,zero:=[.string ⟨#[]⟩,.pointer none],bd:=[(0,1),(1,1)],bytes:=24 }:=by kernel_rfl
theorem yG:tt 234=some { size:=4,agg:=true,zero:=[.string ⟨#[]⟩,.int .i64 0,.bool false,.int .i64 0],bd:=[(0,1),(1,1),(2,1),(3,1)],bytes:=40 }:=by kernel_rfl
theorem fR (f:FuncId) (fn:Func) (body:Code) (hf:ab.funcs[f]?=some fn) (hb:fn.body=some body) (xs:Array Value) (w:World):(callFunc f xs).run ab w = .ok (.enter f xs) w:=MR (by kernel_rfl) f fn body hf hb xs w
def Ba:Eh:=V8 [
 (3,10,4,[pN,⟨.r,0,[],[0],[]⟩,⟨.a,0,[],[0,1],[]⟩,pN,⟨.r,0,[0],[3],[]⟩,⟨.a,1,[],[0,1,2,3,4],[]⟩,⟨.n,0,[],[0,1,2,3,4],[]⟩,⟨.w,2,[],[0,1,2,3,4,5,6],[]⟩,⟨.n,0,[],[0,1,2,3,4,5,6,7],[]⟩,⟨.w,3,[],[0,1,2,3,4,5,6,7,8],[]⟩]),
 (3,15,6,[pN,⟨.r,0,[],[0],[]⟩,⟨.a,0,[],[0,1],[]⟩,pN,⟨.r,0,[0],[3],[]⟩,⟨.a,1,[],[0,1,2,3,4],[]⟩,pN,⟨.r,0,[0,1],[6],[]⟩,⟨.a,2,[],[0,1,2,3,4,5,6,7],[]⟩,⟨.n,0,[],[0,1,2,3,4,6,7],[]⟩,⟨.w,3,[],[0,1,2,3,4,5,6,7,8,9],[]⟩,⟨.n,0,[],[0,1,2,3,4,5,6,7,8,9,10],[]⟩,⟨.w,4,[],[0,1,2,3,4,5,6,7,8,9,10,11],[]⟩,⟨.n,0,[],[0,1,2,3,4,5,6,7,8,9,10,11,12],[]⟩,⟨.w,5,[],[0,1,2,3,4,5,6,7,8,9,10,11,12,13],[]⟩]),
 (12,10,0,[pN,pN,⟨.r,0,[],[],[]⟩,pN,pN,pN,⟨.r,0,[],[],[]⟩,pN,pN,pN]),
 (16,10,0,[pN,pN,⟨.r,0,[],[],[]⟩,pN,pN,pN,⟨.r,0,[],[],[]⟩,pN,pN,pN]),
 (7,7,1,[pN,⟨.r,0,[0],[],[]⟩,⟨.r,0,[0],[],[]⟩,pN,pN,⟨.a,0,[],[],[]⟩,⟨.s,0,[],[],[]⟩]),
 (7,7,0,[⟨.r,0,[],[],[]⟩,pN,⟨.r,0,[],[1],[]⟩,pN,⟨.r,0,[],[1,2,3],[]⟩,⟨.z,0,[],[0,1,2,3,4],[]⟩,⟨.n,0,[],[0,1,2,3,4,5],[]⟩]),
 (9,10,1,[pN,⟨.r,0,[],[0],[99]⟩,pN,pN,pN,⟨.r,0,[],[4],[]⟩,⟨.e,99,[],[3,4,5],[]⟩,⟨.r,0,[],[0,1,2,3,4,5,6],[]⟩,⟨.n,0,[],[0,1,2,3,4,5,6,7],[]⟩,⟨.w,0,[],[0,1,2,3,4,5,6,7,8],[]⟩]),
 (10,12,2,[pN,pN,⟨.n,0,[],[1],[]⟩,⟨.n,0,[],[1,2],[]⟩,⟨.r,0,[],[1,2,3],[]⟩,pN,⟨.r,0,[],[5],[]⟩,⟨.n,0,[],[5,6],[]⟩,⟨.w,0,[],[1,2,3,4,5,6,7],[]⟩,⟨.n,0,[],[0,1,2,3,4,5,6,7,8],[]⟩,⟨.n,0,[],[0,1,2,3,4,5,6,7,8,9],[]⟩,⟨.w,1,[],[0,1,2,3,4,5,6,7,8,9,10],[]⟩]),
 (12,18,3,[pN,pN,⟨.r,0,[],[1],[]⟩,⟨.e,99,[],[0,1,2],[]⟩,pN,pN,⟨.r,0,[],[5],[99]⟩,⟨.e,99,[],[0,1,2,3,4,5,6],[]⟩,pN,pN,⟨.r,0,[],[9],[99]⟩,⟨.e,99,[],[0,1,2,3,4,5,6,7,8,9,10],[]⟩,⟨.n,0,[],[0,1,2,3,5,6,9,10],[]⟩,⟨.w,0,[],[0,1,2,3,4,5,6,7,8,9,10,11,12],[]⟩,⟨.n,0,[],[0,1,2,3,4,5,6,7,8,9,10,11,12,13],[]⟩,⟨.w,1,[],[0,1,2,3,4,5,6,7,8,9,10,11,12,13,14],[]⟩,⟨.n,0,[],[0,1,2,3,4,5,6,7,8,9,10,11,12,13,14,15],[]⟩,⟨.w,2,[],[0,1,2,3,4,5,6,7,8,9,10,11,12,13,14,15,16],[]⟩]),
 (14,7,0,[⟨.r,0,[],[],[]⟩,pN,⟨.n,0,[],[1],[]⟩,⟨.n,0,[],[1,2],[]⟩,⟨.r,0,[],[1,2,3],[905]⟩,⟨.e,905,[],[0],[]⟩,⟨.n,0,[],[0,1,2,3,4,5],[]⟩]),
 (4,7,0,[pN,⟨.n,0,[],[0],[]⟩,pN,⟨.n,0,[],[0,1,2],[]⟩,⟨.r,0,[],[],[]⟩,⟨.n,0,[],[0,1,2,3],[]⟩,⟨.e,906,[],[0,1,2,3,4,5],[]⟩]),
 (7,4,0,[pN,⟨.r,0,[],[],[]⟩,⟨.n,0,[],[0],[]⟩,⟨.e,903,[],[0,1,2],[]⟩]),
 (4,9,0,[pN,⟨.r,0,[],[0],[]⟩,pN,⟨.r,0,[],[2],[]⟩,⟨.r,0,[],[],[]⟩,⟨.n,0,[],[4],[]⟩,⟨.n,0,[],[0,1,4,5],[]⟩,⟨.n,0,[],[0,1,2,3,4,5,6],[]⟩,⟨.e,908,[],[0,1,2,3,4,5,6,7],[]⟩]),
 (9,8,0,[⟨.r,0,[],[],[]⟩,⟨.r,0,[],[],[]⟩,⟨.n,0,[],[1],[]⟩,⟨.n,0,[],[0,1,2],[]⟩,⟨.n,0,[],[0,1,2,3],[]⟩,⟨.n,0,[],[0,1,2,3],[]⟩,⟨.e,906,[],[0,1,2,3,4,5],[]⟩,⟨.e,907,[],[0,1,2,3,4,5,6],[]⟩]),
 (16,4,0,[⟨.r,0,[],[],[]⟩,⟨.r,0,[],[],[902]⟩,⟨.e,902,[],[0],[]⟩,⟨.e,903,[],[0,1,2],[]⟩]),
 (5,10,1,[pN,⟨.n,0,[],[0],[]⟩,⟨.n,0,[],[0,1],[]⟩,⟨.r,0,[],[0,1,2],[]⟩,pN,pN,⟨.r,0,[],[5],[]⟩,⟨.e,99,[],[0,1,2,3,4,5,6],[]⟩,⟨.n,0,[],[0,1,2,3,4,5,6,7],[]⟩,⟨.w,0,[],[0,1,2,3,4,5,6,7,8],[]⟩]),
 (6,8,0,[pN,⟨.n,0,[],[0],[]⟩,⟨.n,0,[],[0,1],[]⟩,⟨.r,0,[],[0,1,2],[]⟩,pN,⟨.r,0,[],[4],[]⟩,⟨.z,0,[],[0,1,2,3,4,5],[]⟩,⟨.n,0,[],[0,1,2,3,4,5,6],[]⟩]),
 (2,10,1,[pN,⟨.n,0,[],[0],[]⟩,⟨.n,0,[],[0,1],[]⟩,⟨.r,0,[],[0,1,2],[]⟩,pN,pN,⟨.r,0,[],[5],[]⟩,⟨.e,99,[],[0,1,2,3,4,5,6],[]⟩,⟨.n,0,[],[0,1,2,3,4,5,6,7],[]⟩,⟨.w,0,[],[0,1,2,3,4,5,6,7,8],[]⟩]),
 (9,9,0,[pN,⟨.n,0,[],[0],[]⟩,⟨.n,0,[],[0,1],[]⟩,⟨.n,0,[],[0,1,2],[]⟩,⟨.r,0,[],[0,1,2,3],[906]⟩,pN,⟨.e,906,[],[5],[]⟩,⟨.n,0,[],[0,1,2,3,4,5,6],[]⟩,⟨.e,908,[],[0,1,2,3,4,5,6,7],[]⟩]),
 (2,8,1,[pN,⟨.n,0,[],[0],[]⟩,⟨.n,0,[],[0,1],[]⟩,⟨.r,0,[],[0,1,2],[]⟩,pN,⟨.r,0,[],[],[]⟩,⟨.e,99,[],[0,1,2,3,4,5],[]⟩,⟨.w,0,[],[0,1,2,3,4,5,6],[]⟩]),
 (7,8,1,[pN,⟨.r,0,[],[0],[99]⟩,pN,pN,⟨.r,0,[],[],[]⟩,⟨.e,99,[],[3,4],[]⟩,⟨.r,0,[],[0,1,2,3,4,5],[]⟩,⟨.w,0,[],[0,1,2,3,4,5,6],[]⟩]),
 (2,9,1,[pN,⟨.n,0,[],[0],[]⟩,⟨.n,0,[],[0,1],[]⟩,⟨.r,0,[],[0,1,2],[]⟩,pN,pN,⟨.r,0,[],[],[]⟩,⟨.e,99,[],[0,1,2,3,4,5,6],[]⟩,⟨.w,0,[],[0,1,2,3,4,5,6,7],[]⟩]),
 (18,12,1,[pN,⟨.r,0,[],[0],[99]⟩,pN,pN,⟨.r,0,[],[],[]⟩,pN,pN,⟨.e,99,[],[4,5,6],[]⟩,⟨.r,0,[],[],[99]⟩,⟨.e,99,[],[3,4,5,6,7,8],[]⟩,⟨.r,0,[],[0,1,2,3,4,5,6,7,8,9],[]⟩,⟨.w,0,[],[0,1,2,3,4,5,6,7,8,9,10],[]⟩]),
 (11,9,0,[pN,⟨.r,0,[],[],[]⟩,pN,⟨.r,0,[],[],[]⟩,pN,⟨.r,0,[],[],[]⟩,pN,⟨.r,0,[],[],[]⟩,pN]),
 (7,18,1,[pN,pN,pN,pN,pN,pN,pN,pN,⟨.r,0,[],[],[]⟩,⟨.r,0,[],[],[]⟩,pN,pN,pN,pN,pN,pN,⟨.r,0,[],[],[]⟩,⟨.w,0,[],[],[]⟩]),
 (14,4,0,[⟨.r,0,[],[],[]⟩,⟨.r,0,[],[],[902]⟩,⟨.e,902,[],[0],[]⟩,⟨.e,903,[],[0,1,2],[]⟩]),
 (2,3,0,[⟨.r,0,[],[],[]⟩,pN,⟨.e,902,[],[0,1],[]⟩]),
 (5,6,0,[⟨.r,0,[],[],[]⟩,pN,pN,⟨.r,0,[],[1,2],[]⟩,⟨.r,0,[],[1,2,3],[]⟩,⟨.z,0,[],[0,1,2,3,4],[]⟩]),
 (9,6,0,[⟨.r,0,[],[],[]⟩,⟨.n,0,[],[0],[]⟩,⟨.n,0,[],[0,1],[]⟩,⟨.r,0,[],[],[904]⟩,⟨.e,904,[],[0,1,2],[]⟩,⟨.e,905,[],[0,1,2,3,4],[]⟩]),
 (26,4,0,[⟨.r,0,[],[],[]⟩,⟨.r,0,[],[],[902]⟩,⟨.e,902,[],[0],[]⟩,⟨.e,903,[],[0,1,2],[]⟩]),
 (5,8,0,[pN,⟨.r,0,[],[],[]⟩,⟨.r,0,[],[],[]⟩,⟨.n,0,[],[1,2],[]⟩,⟨.n,0,[],[0,1,2,3],[]⟩,⟨.r,0,[],[],[906]⟩,⟨.e,906,[],[0,1,2,3,4],[]⟩,⟨.e,907,[],[0,1,2,3,4,5,6],[]⟩]),
 (3,8,0,[⟨.r,0,[],[],[905]⟩,pN,⟨.r,0,[],[1],[]⟩,⟨.r,0,[],[0,1,2],[905]⟩,⟨.n,0,[],[1,2],[]⟩,⟨.e,905,[],[1,2,4],[]⟩,⟨.n,0,[],[0,1,2,3,4,5],[]⟩,⟨.e,907,[],[0,1,2,3,4,5,6],[]⟩]),
 (6,10,0,[pN,pN,⟨.r,0,[],[0,1],[]⟩,⟨.r,0,[],[0,1,2],[]⟩,pN,pN,⟨.r,0,[],[4,5],[]⟩,⟨.r,0,[],[4,5,6],[]⟩,⟨.z,0,[],[0,1,2,3,4,5,6,7],[]⟩,⟨.n,0,[],[0,1,2,3,4,5,6,7,8],[]⟩]),
 (12,10,0,[pN,pN,⟨.r,0,[],[],[]⟩,pN,pN,⟨.r,0,[],[],[]⟩,pN,pN,pN,pN]),
 (10,5,0,[pN,pN,pN,⟨.r,0,[],[],[]⟩,pN]),
 (21,22,0,[pN,pN,pN,pN,⟨.r,0,[],[],[]⟩,⟨.r,0,[],[],[]⟩,pN,pN,pN,pN,pN,pN,⟨.r,0,[],[],[]⟩,⟨.r,0,[],[],[]⟩,pN,⟨.r,0,[],[],[]⟩,pN,pN,⟨.r,0,[],[],[]⟩,⟨.r,0,[],[],[]⟩,pN,pN]),
 (22,13,0,[pN,pN,⟨.r,0,[],[0,1],[]⟩,⟨.r,0,[],[0,1,2],[]⟩,⟨.n,0,[],[0,1,2,3],[]⟩,pN,pN,⟨.r,0,[],[5,6],[910]⟩,⟨.r,0,[],[5,6,7],[910]⟩,⟨.n,0,[],[5,6,7,8],[]⟩,⟨.e,910,[],[0,1,2,3,4],[]⟩,⟨.n,0,[],[0,1,2,3,4,5,6,7,8,9,10],[]⟩,⟨.n,0,[],[0,1,2,3,4,5,6,7,8,9,10,11],[]⟩]),
 (2,5,0,[⟨.r,0,[],[],[]⟩,⟨.r,0,[],[],[]⟩,⟨.n,0,[],[1],[]⟩,⟨.e,903,[],[0,1,2],[]⟩,⟨.e,904,[],[0,1,2,3],[]⟩]),
 (16,10,0,[pN,⟨.n,0,[],[0],[]⟩,⟨.n,0,[],[0,1],[]⟩,⟨.r,0,[],[0,1,2],[]⟩,⟨.n,0,[],[0,1,2],[]⟩,⟨.n,0,[],[0,1,2],[]⟩,⟨.r,0,[],[0,1,2,4,5],[]⟩,⟨.r,0,[],[0,1,2,4,5,6],[]⟩,⟨.z,0,[],[0,1,2,3,4,5,6,7],[]⟩,⟨.n,0,[],[0,1,2,3,4,5,6,7,8],[]⟩]),
 (18,11,0,[pN,pN,⟨.r,0,[],[0,1],[]⟩,⟨.r,0,[],[0,1,2],[]⟩,⟨.r,0,[],[],[]⟩,⟨.r,0,[],[],[]⟩,⟨.n,0,[],[4,5],[]⟩,⟨.n,0,[],[0,1,2,3,4,5,6],[]⟩,⟨.r,0,[],[],[909]⟩,⟨.e,909,[],[0,1,2,3,4,5,6,7],[]⟩,⟨.e,910,[],[0,1,2,3,4,5,6,7,8,9],[]⟩]),
 (22,4,0,[⟨.r,0,[],[],[]⟩,⟨.r,0,[],[],[902]⟩,⟨.e,902,[],[0],[]⟩,⟨.e,903,[],[0,1,2],[]⟩]),
 (1,16,0,[pN,⟨.r,0,[],[],[]⟩,pN,pN,⟨.r,0,[],[],[]⟩,pN,pN,⟨.r,0,[],[],[]⟩,pN,pN,⟨.r,0,[],[],[]⟩,pN,pN,pN,pN,pN]),
 (5,5,0,[pN,⟨.n,0,[],[0],[]⟩,⟨.r,0,[],[],[903]⟩,⟨.e,903,[],[0,1],[]⟩,⟨.e,904,[],[0,1,2,3],[]⟩]),
 (8,4,0,[⟨.r,0,[],[],[]⟩,⟨.r,0,[],[],[902]⟩,⟨.e,902,[],[0],[]⟩,⟨.e,903,[],[0,1,2],[]⟩]),
 (34,10,0,[pN,⟨.r,0,[],[0],[]⟩,⟨.n,0,[],[0,1],[]⟩,⟨.n,0,[],[0,1,2],[]⟩,pN,⟨.r,0,[],[4],[]⟩,⟨.n,0,[],[0,1,2,4,5],[]⟩,⟨.n,0,[],[0,1,2,4,5,6],[]⟩,⟨.e,908,[],[0,1,2,3,4,5,6],[]⟩,⟨.n,0,[],[0,1,2,3,4,5,6,7,8],[]⟩]),
 (9,4,0,[⟨.r,0,[],[],[]⟩,⟨.r,0,[],[],[902]⟩,⟨.e,902,[],[0],[]⟩,⟨.e,903,[],[0,1,2],[]⟩])]
theorem cJ {nat:oJ} {lQ:FuncId→List V→Option V} (xn:oM ab lQ) (cq:lP ab nat) (n:Nat) {f:FuncId} {vs:List V} {r:V} (h:wP ab tt (ev ab tt Ba nat lQ noM n) f vs=some r):bG ab f vs r:=TS tt_ok bU fR xn V6 cq n h
theorem Ev {nat:oJ} {lQ:FuncId→List V→Option V} {qa:kM} (xn:oM ab lQ) (Kc:jE ab qa) (cq:lP ab nat) (n:Nat) {f:FuncId} {vs:List V} {r:V} (h:wP ab tt (ev ab tt Ba nat lQ qa n) f vs=some r):bG ab f vs r:=TS tt_ok bU fR xn Kc cq n h
theorem tZ {nat:oJ} {lQ:FuncId→List V→Option V} {qa:kM} (xn:oM ab lQ) (Kc:jE ab qa) (cq:lP ab nat) (n:Nat) {f:FuncId} {vs:List V} {mem:List ba} {outs:List (V×List ba)} (h:QL ab tt (ev ab tt Ba nat lQ qa n) f vs mem=some outs):dR ab f vs mem fun r m=>(r,m)∈outs:=V7 tt_ok bU fR xn Kc cq n h
noncomputable def RL:oJ:=fun f vs=>if f=317 then G9 vs else Vq ab f vs
theorem b7 (hG:a6.g=some 1):lP ab RL:=fun f vs r h=>by
 unfold RL at h;split at h;·rename_i hf;subst hf;exact Kd (fn:=Tryz.f317) (by kernel_rfl) (by kernel_rfl) (by kernel_rfl) (by kernel_rfl) (by kernel_rfl) (fun w=>by simp only [globalAddr,program,Sem.run_bind];show (match ab.globals.findIdx? (fun x=>x.name == "internal/bytealg.MaxLen") with | some g=>_ | none=>_:Sem Addr).run ab w=_;rw [show ab.globals.findIdx? (fun x=>x.name == "internal/bytealg.MaxLen")=some 1 from by kernel_rfl]; rfl) hG h
 exact Q5 h
end Go.Proofs.YtnboooapeopjoaaGreatDoor
end
