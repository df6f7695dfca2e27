import Derived.Test.YtnboooapeopjoaaGreatDoorE4
import Derived.Test.YtnboooapeopjoaaGreatDoorProg
import Derived.KernelRfl
open Go.Proofs.Tryz renaming prog→ab
set_option linter.all false
section
namespace Go.Proofs.YtnboooapeopjoaaGreatDoor
open Go.Eng
variable [bk]
set_option maxHeartbeats 4000000
set_option maxRecDepth 100000
def ca:Ti := { size:=1,agg:=false,zero:=[.nilFunc],bytes:=8 }
def Fs:Ti := { size:=1,agg:=false,zero:=[.pointer none],bytes:=8 }
def Wb:Ti := { size:=1,agg:=false,zero:=[.int .i64 0],bytes:=8 }
def Wc:Ti := { size:=1,agg:=false,zero:=[.int .u8 0],bytes:=1 }
def Wd:Ti := { size:=1,agg:=false,zero:=[.int .u64 0],bytes:=8 }
def We:Ti := { size:=2,agg:=true,zero:=[.string ⟨#[]⟩,.string ⟨#[]⟩],bp:=[(0,1),(1,1)],bytes:=32 }
def aaV:Ti := { size:=1,agg:=false,zero:=[.string ⟨#[]⟩],bytes:=16 }
def aaW:Ti := { size:=1,agg:=false,zero:=[.int .i32 0],bytes:=4 }
def aaX:Ti := { size:=1,agg:=false,zero:=[.map none],bytes:=8 }
def aaY:Ti := { size:=0,agg:=true,zero:=[],bytes:=0 }
def Ym:Ti := { size:=4,agg:=true,zero:=[.int .i64 0,.int .i64 0,.bool false,.int .u8 0],bp:=[(0,1),(1,1),(2,1),(3,1)],bytes:=24 }
def Yn:Ti := { size:=2,agg:=true,zero:=[.string ⟨#[]⟩,.int .u64 0],bp:=[(0,1),(1,1)],bytes:=24 }
def Yo:Ti := { size:=1,agg:=true,zero:=[.pointer none],bp:=[(0,1)],bytes:=8 }
def Yp:Ti := { size:=3,agg:=true,zero:=[.string ⟨#[]⟩,.slice none 0 0,.slice none 0 0],bp:=[(0,1),(1,1),(2,1)],bytes:=64 }
def Yq:Ti := { size:=5,agg:=true,zero:=[.int .i64 0,.string ⟨#[]⟩,.string ⟨#[]⟩,.slice none 0 0,.slice none 0 0],bp:=[(0,1),(1,1),(2,1),(3,1),(4,1)],bytes:=88 }
def Yr:Ti := { size:=8,agg:=true,zero:=[.int .i64 0,.string ⟨#[]⟩,.string ⟨#[]⟩,.string ⟨#[]⟩,.int .i64 0,.slice none 0 0,.slice none 0 0,.slice none 0 0],bp:=[(0,1),(1,1),(2,1),(3,1),(4,1),(5,1),(6,1),(7,1)],bytes:=136 }
def Ys:Ti := { size:=31,agg:=true,zero:=[.int .i64 0,.string ⟨#[]⟩,.bool false,.bool false,.string ⟨#[]⟩,.slice none 0 0,.int .i64 0,.string ⟨#[]⟩,.string ⟨#[]⟩,.slice none 0 0,.slice none 0 0,.int .i64 0,.string ⟨#[]⟩,.string ⟨#[]⟩,.slice none 0 0,.slice none 0 0,.int .i64 0,.string ⟨#[]⟩,.string ⟨#[]⟩,.slice none 0 0,.slice none 0 0,.int .i64 0,.string ⟨#[]⟩,.string ⟨#[]⟩,.string ⟨#[]⟩,.int .i64 0,.slice none 0 0,.slice none 0 0,.slice none 0 0,.string ⟨#[]⟩,.string ⟨#[]⟩],bp:=[(0,1),(1,1),(2,1),(3,1),(4,1),(5,1),(6,5),(11,5),(16,5),(21,8),(29,1),(30,1)],bytes:=504 }
def Yt:Ti := { size:=7,agg:=true,zero:=[.string ⟨#[]⟩,.int .i64 0,.int .i64 0,.string ⟨#[]⟩,.string ⟨#[]⟩,.slice none 0 0,.slice none 0 0],bp:=[(0,1),(1,1),(2,5)],bytes:=112 }
def Yu:Ti := { size:=6,agg:=true,zero:=[.string ⟨#[]⟩,.slice none 0 0,.slice none 0 0,.int .i64 0,.slice none 0 0,.slice none 0 0],bp:=[(0,3),(3,1),(4,1),(5,1)],bytes:=120 }
def Yv:Ti := { size:=7,agg:=true,zero:=[.string ⟨#[]⟩,.int .i64 0,.string ⟨#[]⟩,.string ⟨#[]⟩,.slice none 0 0,.slice none 0 0,.bool false],bp:=[(0,1),(1,5),(6,1)],bytes:=112 }
def Yw:Ti := { size:=8,agg:=true,zero:=[.string ⟨#[]⟩,.string ⟨#[]⟩,.int .i64 0,.string ⟨#[]⟩,.string ⟨#[]⟩,.slice none 0 0,.slice none 0 0,.bool false],bp:=[(0,1),(1,1),(2,5),(7,1)],bytes:=128 }
def Yx:Ti := { size:=4,agg:=true,zero:=[.slice none 0 0,.int .i64 0,.int .i64 0,.int .i64 0],bp:=[(0,1),(1,1),(2,1),(3,1)],bytes:=48 }
def Yy:Ti := { size:=3,agg:=true,zero:=[.int .i64 0,.string ⟨#[]⟩,.int .i64 0],bp:=[(0,1),(1,1),(2,1)],bytes:=32 }
def Yz:Ti := { size:=9,agg:=true,zero:=[.string ⟨#[]⟩,.slice none 0 0,.slice none 0 0,.int .i64 0,.slice none 0 0,.int .i64 0,.nilFunc,.nilFunc,.nilFunc],bp:=[(0,3),(3,1),(4,1),(5,1),(6,1),(7,1),(8,1)],bytes:=128 }
def YA:Ti := { size:=2,agg:=true,zero:=[.string ⟨#[]⟩,.pointer none],bp:=[(0,1),(1,1)],bytes:=24 }
def YB:Ti := { size:=4,agg:=true,zero:=[.string ⟨#[]⟩,.int .i64 0,.bool false,.int .i64 0],bp:=[(0,1),(1,1),(2,1),(3,1)],bytes:=40 }
def YC:Ti := { size:=9,agg:=true,zero:=[.bool false,.bool false,.bool false,.bool false,.bool false,.bool false,.bool false,.int .i64 0,.bool false],bp:=[(0,1),(1,1),(2,1),(3,1),(4,1),(5,1),(6,1),(7,1),(8,1)],bytes:=24 }
def YD:Ti := { size:=32,agg:=true,zero:=[.int .u8 0,.int .u8 0,.int .u8 0,.int .u8 0,.int .u8 0,.int .u8 0,.int .u8 0,.int .u8 0,.int .u8 0,.int .u8 0,.int .u8 0,.int .u8 0,.int .u8 0,.int .u8 0,.int .u8 0,.int .u8 0,.int .u8 0,.int .u8 0,.int .u8 0,.int .u8 0,.int .u8 0,.int .u8 0,.int .u8 0,.int .u8 0,.int .u8 0,.int .u8 0,.int .u8 0,.int .u8 0,.int .u8 0,.int .u8 0,.int .u8 0,.int .u8 0],bytes:=32 }
def YE:Ti := { size:=2,agg:=true,zero:=[.int .u8 0,.int .u8 0],bp:=[(0,1),(1,1)],bytes:=2 }
def YF:Ti := { size:=4,agg:=true,zero:=[.pointer none,.pointer none,.pointer none,.string ⟨#[]⟩],bp:=[(0,1),(1,1),(2,1),(3,1)],bytes:=40 }
def YG:Ti := { size:=11,agg:=true,zero:=[.int .u64 0,.int .u64 0,.int .u32 0,.int .u8 0,.int .u8 0,.int .u8 0,.int .u8 0,.nilFunc,.pointer none,.int .i32 0,.int .i32 0],bp:=[(0,1),(1,1),(2,1),(3,1),(4,1),(5,1),(6,1),(7,1),(8,1),(9,1),(10,1)],bytes:=48 }
def tab:List (Nat×Ti):=[
 (1,ca),
 (2,Wb),
 (3,Wb),
 (4,{ size:=1,agg:=false,zero:=[.bool false],bytes:=1 }),
 (5,Wc),
 (6,Wc),
 (7,Ym),
 (8,Ym),
 (9,aaV),
 (10,aaV),
 (11,aaV),
 (12,Wd),
 (13,Yn),
 (14,Yn),
 (15,Fs),
 (16,Fs),
 (17,Fs),
 (18,Yo),
 (19,Yo),
 (20,{ size:=1,agg:=false,zero:=[.nilIface],bytes:=16 }),
 (21,aaW),
 (22,{ size:=1,agg:=false,zero:=[.slice none 0 0],elem:=some 35,bytes:=24 }),
 (23,{ size:=1,agg:=false,zero:=[.slice none 0 0],elem:=some 47,bytes:=24 }),
 (24,Yp),
 (25,Yp),
 (26,ca),
 (27,ca),
 (28,Wb),
 (30,ca),
 (31,ca),
 (32,ca),
 (33,ca),
 (34,We),
 (35,We),
 (36,{ size:=1,agg:=false,zero:=[.slice none 0 0],elem:=some 9,bytes:=24 }),
 (37,{ size:=1,agg:=false,zero:=[.slice none 0 0],elem:=some 49,bytes:=24 }),
 (38,{ size:=1,agg:=false,zero:=[.slice none 0 0],elem:=some 41,bytes:=24 }),
 (39,{ size:=1,agg:=false,zero:=[.slice none 0 0],elem:=some 94,bytes:=24 }),
 (40,Yq),
 (41,Yq),
 (42,{ size:=1,agg:=false,zero:=[.slice none 0 0],elem:=some 97,bytes:=24 }),
 (43,{ size:=1,agg:=false,zero:=[.slice none 0 0],elem:=some 45,bytes:=24 }),
 (44,Yr),
 (45,Yr),
 (46,Ys),
 (47,Ys),
 (48,Yt),
 (49,Yt),
 (50,ca),
 (51,ca),
 (52,ca),
 (53,ca),
 (54,ca),
 (55,ca),
 (56,ca),
 (57,ca),
 (58,ca),
 (59,ca),
 (60,ca),
 (61,ca),
 (62,ca),
 (63,ca),
 (64,ca),
 (65,ca),
 (67,ca),
 (68,ca),
 (69,Fs),
 (70,ca),
 (72,ca),
 (73,ca),
 (74,Yu),
 (75,Yu),
 (76,ca),
 (77,{ size:=1,agg:=false,zero:=[.slice none 0 0],elem:=some 80,bytes:=24 }),
 (78,ca),
 (79,We),
 (80,We),
 (81,ca),
 (82,ca),
 (83,ca),
 (84,ca),
 (85,ca),
 (86,ca),
 (87,ca),
 (88,ca),
 (89,ca),
 (90,ca),
 (91,ca),
 (92,ca),
 (93,Yv),
 (94,Yv),
 (95,ca),
 (96,Yw),
 (97,Yw),
 (98,ca),
 (99,ca),
 (100,ca),
 (101,ca),
 (102,{ size:=1,agg:=false,zero:=[.slice none 0 0],elem:=some 116,bytes:=24 }),
 (103,Yx),
 (104,Yx),
 (105,ca),
 (106,{ size:=1,agg:=false,zero:=[.slice none 0 0],elem:=some 3,bytes:=24 }),
 (108,ca),
 (109,ca),
 (110,ca),
 (111,ca),
 (113,ca),
 (114,ca),
 (115,Yy),
 (116,Yy),
 (118,ca),
 (119,ca),
 (120,ca),
 (121,ca),
 (122,ca),
 (123,ca),
 (124,ca),
 (125,ca),
 (126,ca),
 (127,ca),
 (128,aaX),
 (130,ca),
 (131,ca),
 (132,ca),
 (133,ca),
 (134,Yz),
 (135,Yz),
 (136,ca),
 (137,ca),
 (138,ca),
 (140,ca),
 (142,ca),
 (144,ca),
 (145,ca),
 (146,ca),
 (147,ca),
 (148,ca),
 (149,ca),
 (150,ca),
 (151,ca),
 (152,ca),
 (153,ca),
 (155,ca),
 (156,ca),
 (157,ca),
 (159,ca),
 (161,ca),
 (163,ca),
 (164,aaX),
 (165,ca),
 (166,ca),
 (167,ca),
 (168,ca),
 (169,ca),
 (170,Fs),
 (171,ca),
 (172,ca),
 (173,ca),
 (174,ca),
 (175,ca),
 (176,ca),
 (177,ca),
 (178,{ size:=1,agg:=false,zero:=[.slice none 0 0],elem:=some 5,bytes:=24 }),
 (179,ca),
 (181,ca),
 (183,ca),
 (185,ca),
 (187,ca),
 (188,ca),
 (189,ca),
 (190,ca),
 (191,ca),
 (192,ca),
 (193,ca),
 (194,ca),
 (195,ca),
 (196,ca),
 (197,ca),
 (198,aaX),
 (199,ca),
 (200,ca),
 (201,ca),
 (202,ca),
 (203,ca),
 (204,ca),
 (206,ca),
 (207,YA),
 (208,YA),
 (209,ca),
 (210,ca),
 (211,ca),
 (212,ca),
 (213,ca),
 (214,ca),
 (215,ca),
 (216,ca),
 (217,ca),
 (218,ca),
 (219,Wd),
 (220,ca),
 (221,ca),
 (222,ca),
 (223,ca),
 (224,ca),
 (225,ca),
 (226,ca),
 (227,ca),
 (228,ca),
 (229,ca),
 (230,ca),
 (231,ca),
 (232,ca),
 (233,YB),
 (234,YB),
 (236,ca),
 (237,ca),
 (238,ca),
 (239,ca),
 (240,ca),
 (242,ca),
 (243,ca),
 (244,ca),
 (245,Wb),
 (247,ca),
 (248,ca),
 (249,ca),
 (250,ca),
 (251,ca),
 (252,{ size:=1,agg:=false,zero:=[.int .u32 0],bytes:=4 }),
 (253,ca),
 (254,Wd),
 (255,{ size:=24,agg:=true,zero:=[.int .u8 0,.int .u8 0,.int .u8 0,.int .u8 0,.int .u8 0,.int .u8 0,.int .u8 0,.int .u8 0,.int .u8 0,.int .u8 0,.int .u8 0,.int .u8 0,.int .u8 0,.int .u8 0,.int .u8 0,.int .u8 0,.int .u8 0,.int .u8 0,.int .u8 0,.int .u8 0,.int .u8 0,.int .u8 0,.int .u8 0,.int .u8 0],bytes:=24 }),
 (256,ca),
 (258,ca),
 (259,ca),
 (260,ca),
 (261,ca),
 (262,ca),
 (263,ca),
 (264,ca),
 (265,ca),
 (266,YC),
 (267,YC),
 (269,ca),
 (270,ca),
 (271,ca),
 (272,ca),
 (273,ca),
 (274,Wd),
 (275,ca),
 (276,ca),
 (277,ca),
 (278,Fs),
 (279,ca),
 (280,ca),
 (281,ca),
 (282,{ size:=20,agg:=true,zero:=[.int .u64 0,.int .u64 0,.int .u64 0,.int .u64 0,.int .u64 0,.int .u64 0,.int .u64 0,.int .u64 0,.int .u64 0,.int .u64 0,.int .u64 0,.int .u64 0,.int .u64 0,.int .u64 0,.int .u64 0,.int .u64 0,.int .u64 0,.int .u64 0,.int .u64 0,.int .u64 0],bytes:=160 }),
 (283,{ size:=65,agg:=true,zero:=[.int .u8 0,.int .u8 0,.int .u8 0,.int .u8 0,.int .u8 0,.int .u8 0,.int .u8 0,.int .u8 0,.int .u8 0,.int .u8 0,.int .u8 0,.int .u8 0,.int .u8 0,.int .u8 0,.int .u8 0,.int .u8 0,.int .u8 0,.int .u8 0,.int .u8 0,.int .u8 0,.int .u8 0,.int .u8 0,.int .u8 0,.int .u8 0,.int .u8 0,.int .u8 0,.int .u8 0,.int .u8 0,.int .u8 0,.int .u8 0,.int .u8 0,.int .u8 0,.int .u8 0,.int .u8 0,.int .u8 0,.int .u8 0,.int .u8 0,.int .u8 0,.int .u8 0,.int .u8 0,.int .u8 0,.int .u8 0,.int .u8 0,.int .u8 0,.int .u8 0,.int .u8 0,.int .u8 0,.int .u8 0,.int .u8 0,.int .u8 0,.int .u8 0,.int .u8 0,.int .u8 0,.int .u8 0,.int .u8 0,.int .u8 0,.int .u8 0,.int .u8 0,.int .u8 0,.int .u8 0,.int .u8 0,.int .u8 0,.int .u8 0,.int .u8 0,.int .u8 0],bytes:=65 }),
 (284,ca),
 (285,ca),
 (287,ca),
 (288,ca),
 (289,ca),
 (290,Fs),
 (292,ca),
 (293,YD),
 (294,{ size:=64,agg:=true,zero:=[.int .u8 0,.int .u8 0,.int .u8 0,.int .u8 0,.int .u8 0,.int .u8 0,.int .u8 0,.int .u8 0,.int .u8 0,.int .u8 0,.int .u8 0,.int .u8 0,.int .u8 0,.int .u8 0,.int .u8 0,.int .u8 0,.int .u8 0,.int .u8 0,.int .u8 0,.int .u8 0,.int .u8 0,.int .u8 0,.int .u8 0,.int .u8 0,.int .u8 0,.int .u8 0,.int .u8 0,.int .u8 0,.int .u8 0,.int .u8 0,.int .u8 0,.int .u8 0,.int .u8 0,.int .u8 0,.int .u8 0,.int .u8 0,.int .u8 0,.int .u8 0,.int .u8 0,.int .u8 0,.int .u8 0,.int .u8 0,.int .u8 0,.int .u8 0,.int .u8 0,.int .u8 0,.int .u8 0,.int .u8 0,.int .u8 0,.int .u8 0,.int .u8 0,.int .u8 0,.int .u8 0,.int .u8 0,.int .u8 0,.int .u8 0,.int .u8 0,.int .u8 0,.int .u8 0,.int .u8 0,.int .u8 0,.int .u8 0,.int .u8 0,.int .u8 0],bytes:=64 }),
 (296,ca),
 (298,YE),
 (299,YE),
 (300,YD),
 (301,ca),
 (302,YF),
 (303,YF),
 (304,aaY),
 (305,aaY),
 (306,aaY),
 (307,ca),
 (308,Wc),
 (309,Wc),
 (310,ca),
 (311,Fs),
 (312,aaW),
 (313,aaW),
 (314,YG),
 (315,YG),
 (316,Fs)]
def tt:Table:=tI tab
theorem tt_ok:TT ab tt:=tt_of (P:=ab) (l:=tab) (by kernel_rfl)
theorem bU:ab.follows .mixedOrders=true:=by kernel_rfl
theorem tt3:tt 3=some { size:=1,agg:=false,zero:=[.int .i64 0],bytes:=8 }:=by kernel_rfl
theorem tt4:tt 4=some { size:=1,agg:=false,zero:=[.bool false],bytes:=1 }:=by kernel_rfl
theorem tt5:tt 5=some { size:=1,agg:=false,zero:=[.int .u8 0],bytes:=1 }:=by kernel_rfl
theorem tt9:tt 9=some { size:=1,agg:=false,zero:=[.string ⟨#[]⟩],bytes:=16 }:=by kernel_rfl
theorem ak1:tt 22=some { size:=1,agg:=false,zero:=[.slice none 0 0],elem:=some 35,bytes:=24 }:=by kernel_rfl
theorem ak2:tt 23=some { size:=1,agg:=false,zero:=[.slice none 0 0],elem:=some 47,bytes:=24 }:=by kernel_rfl
theorem ak3:tt 25=some { size:=3,agg:=true,zero:=[.string ⟨#[]⟩,.slice none 0 0,.slice none 0 0],bp:=[(0,1),(1,1),(2,1)],bytes:=64 }:=by kernel_rfl
theorem ak4:tt 28=some { size:=1,agg:=false,zero:=[.int .i64 0],bytes:=8 }:=by kernel_rfl
theorem ak5:tt 35=some { size:=2,agg:=true,zero:=[.string ⟨#[]⟩,.string ⟨#[]⟩],bp:=[(0,1),(1,1)],bytes:=32 }:=by kernel_rfl
theorem ak6:tt 36=some { size:=1,agg:=false,zero:=[.slice none 0 0],elem:=some 9,bytes:=24 }:=by kernel_rfl
theorem ak7:tt 37=some { size:=1,agg:=false,zero:=[.slice none 0 0],elem:=some 49,bytes:=24 }:=by kernel_rfl
theorem ak8:tt 38=some { size:=1,agg:=false,zero:=[.slice none 0 0],elem:=some 41,bytes:=24 }:=by kernel_rfl
theorem ak9:tt 39=some { size:=1,agg:=false,zero:=[.slice none 0 0],elem:=some 94,bytes:=24 }:=by kernel_rfl
theorem ala:tt 41=some { size:=5,agg:=true,zero:=[.int .i64 0,.string ⟨#[]⟩,.string ⟨#[]⟩,.slice none 0 0,.slice none 0 0],bp:=[(0,1),(1,1),(2,1),(3,1),(4,1)],bytes:=88 }:=by kernel_rfl
theorem alb:tt 42=some { size:=1,agg:=false,zero:=[.slice none 0 0],elem:=some 97,bytes:=24 }:=by kernel_rfl
theorem alc:tt 43=some { size:=1,agg:=false,zero:=[.slice none 0 0],elem:=some 45,bytes:=24 }:=by kernel_rfl
theorem ald:tt 45=some { size:=8,agg:=true,zero:=[.int .i64 0,.string ⟨#[]⟩,.string ⟨#[]⟩,.string ⟨#[]⟩,.int .i64 0,.slice none 0 0,.slice none 0 0,.slice none 0 0],bp:=[(0,1),(1,1),(2,1),(3,1),(4,1),(5,1),(6,1),(7,1)],bytes:=136 }:=by kernel_rfl
theorem ale:tt 47=some { size:=31,agg:=true,zero:=[.int .i64 0,.string ⟨#[]⟩,.bool false,.bool false,.string ⟨#[]⟩,.slice none 0 0,.int .i64 0,.string ⟨#[]⟩,.string ⟨#[]⟩,.slice none 0 0,.slice none 0 0,.int .i64 0,.string ⟨#[]⟩,.string ⟨#[]⟩,.slice none 0 0,.slice none 0 0,.int .i64 0,.string ⟨#[]⟩,.string ⟨#[]⟩,.slice none 0 0,.slice none 0 0,.int .i64 0,.string ⟨#[]⟩,.string ⟨#[]⟩,.string ⟨#[]⟩,.int .i64 0,.slice none 0 0,.slice none 0 0,.slice none 0 0,.string ⟨#[]⟩,.string ⟨#[]⟩],bp:=[(0,1),(1,1),(2,1),(3,1),(4,1),(5,1),(6,5),(11,5),(16,5),(21,8),(29,1),(30,1)],bytes:=504 }:=by kernel_rfl
theorem alf:tt 49=some { size:=7,agg:=true,zero:=[.string ⟨#[]⟩,.int .i64 0,.int .i64 0,.string ⟨#[]⟩,.string ⟨#[]⟩,.slice none 0 0,.slice none 0 0],bp:=[(0,1),(1,1),(2,5)],bytes:=112 }:=by kernel_rfl
theorem alg:tt 52=some { size:=1,agg:=false,zero:=[.nilFunc],bytes:=8 }:=by kernel_rfl
theorem alh:tt 75=some { size:=6,agg:=true,zero:=[.string ⟨#[]⟩,.slice none 0 0,.slice none 0 0,.int .i64 0,.slice none 0 0,.slice none 0 0],bp:=[(0,3),(3,1),(4,1),(5,1)],bytes:=120 }:=by kernel_rfl
theorem ali:tt 89=some { size:=1,agg:=false,zero:=[.nilFunc],bytes:=8 }:=by kernel_rfl
theorem alj:tt 94=some { size:=7,agg:=true,zero:=[.string ⟨#[]⟩,.int .i64 0,.string ⟨#[]⟩,.string ⟨#[]⟩,.slice none 0 0,.slice none 0 0,.bool false],bp:=[(0,1),(1,5),(6,1)],bytes:=112 }:=by kernel_rfl
theorem alk:tt 97=some { size:=8,agg:=true,zero:=[.string ⟨#[]⟩,.string ⟨#[]⟩,.int .i64 0,.string ⟨#[]⟩,.string ⟨#[]⟩,.slice none 0 0,.slice none 0 0,.bool false],bp:=[(0,1),(1,1),(2,5),(7,1)],bytes:=128 }:=by kernel_rfl
theorem aeX:tt 102=some { size:=1,agg:=false,zero:=[.slice none 0 0],elem:=some 116,bytes:=24 }:=by kernel_rfl
theorem aeY:tt 116=some { size:=3,agg:=true,zero:=[.int .i64 0,.string ⟨#[]⟩,.int .i64 0],bp:=[(0,1),(1,1),(2,1)],bytes:=32 }:=by kernel_rfl
theorem aeZ:tt 127=some { size:=1,agg:=false,zero:=[.nilFunc],bytes:=8 }:=by kernel_rfl
theorem ae0:tt 128=some { size:=1,agg:=false,zero:=[.map none],bytes:=8 }:=by kernel_rfl
theorem ae1:tt 131=some { size:=1,agg:=false,zero:=[.nilFunc],bytes:=8 }:=by kernel_rfl
theorem ae2:tt 132=some { size:=1,agg:=false,zero:=[.nilFunc],bytes:=8 }:=by kernel_rfl
theorem ae3:tt 133=some { size:=1,agg:=false,zero:=[.nilFunc],bytes:=8 }:=by kernel_rfl
theorem ae4:tt 135=some { size:=9,agg:=true,zero:=[.string ⟨#[]⟩,.slice none 0 0,.slice none 0 0,.int .i64 0,.slice none 0 0,.int .i64 0,.nilFunc,.nilFunc,.nilFunc],bp:=[(0,3),(3,1),(4,1),(5,1),(6,1),(7,1),(8,1)],bytes:=128 }:=by kernel_rfl
theorem ae5:tt 170=some { size:=1,agg:=false,zero:=[.pointer none],bytes:=8 }:=by kernel_rfl
theorem ae6:tt 178=some { size:=1,agg:=false,zero:=[.slice none 0 0],elem:=some 5,bytes:=24 }:=by kernel_rfl
theorem ae7:tt 198=some { size:=1,agg:=false,zero:=[.map none],bytes:=8 }:=by kernel_rfl
theorem ae8:tt 208=some { size:=2,agg:=true,zero:=[.string ⟨#[]⟩,.pointer none],bp:=[(0,1),(1,1)],bytes:=24 }:=by kernel_rfl
theorem Bf:tt 234=some { size:=4,agg:=true,zero:=[.string ⟨#[]⟩,.int .i64 0,.bool false,.int .i64 0],bp:=[(0,1),(1,1),(2,1),(3,1)],bytes:=40 }:=by kernel_rfl
theorem ae9:tt 267=some { size:=9,agg:=true,zero:=[.bool false,.bool false,.bool false,.bool false,.bool false,.bool false,.bool false,.int .i64 0,.bool false],bp:=[(0,1),(1,1),(2,1),(3,1),(4,1),(5,1),(6,1),(7,1),(8,1)],bytes:=24 }:=by kernel_rfl
theorem gM (f:FuncId) (fn:Func) (body:Code) (hf:ab.funcs[f]?=some fn) (hb:fn.body=some body) (xs:Array Value) (w:World):(callFunc f xs).run ab w = .ok (.enter f xs) w:=QM (by kernel_rfl) f fn body hf hb xs w
def DJ:HA:=aaU [
 (3,10,4,[pN,⟨.r,0,[],[0],[]⟩,⟨.a,0,[],[0,1],[]⟩,pN,⟨.r,0,[0],[3],[]⟩,⟨.a,1,[],[0,1,2,3,4],[]⟩,⟨.n,0,[],[0,1,2,3,4],[]⟩,⟨.w,2,[],[0,1,2,3,4,5,6],[]⟩,⟨.n,0,[],[0,1,2,3,4,5,6,7],[]⟩,⟨.w,3,[],[0,1,2,3,4,5,6,7,8],[]⟩]),
 (3,15,6,[pN,⟨.r,0,[],[0],[]⟩,⟨.a,0,[],[0,1],[]⟩,pN,⟨.r,0,[0],[3],[]⟩,⟨.a,1,[],[0,1,2,3,4],[]⟩,pN,⟨.r,0,[0,1],[6],[]⟩,⟨.a,2,[],[0,1,2,3,4,5,6,7],[]⟩,⟨.n,0,[],[0,1,2,3,4,6,7],[]⟩,⟨.w,3,[],[0,1,2,3,4,5,6,7,8,9],[]⟩,⟨.n,0,[],[0,1,2,3,4,5,6,7,8,9,10],[]⟩,⟨.w,4,[],[0,1,2,3,4,5,6,7,8,9,10,11],[]⟩,⟨.n,0,[],[0,1,2,3,4,5,6,7,8,9,10,11,12],[]⟩,⟨.w,5,[],[0,1,2,3,4,5,6,7,8,9,10,11,12,13],[]⟩]),
 (12,10,0,[pN,pN,⟨.r,0,[],[],[]⟩,pN,pN,pN,⟨.r,0,[],[],[]⟩,pN,pN,pN]),
 (16,10,0,[pN,pN,⟨.r,0,[],[],[]⟩,pN,pN,pN,⟨.r,0,[],[],[]⟩,pN,pN,pN]),
 (7,7,1,[pN,⟨.r,0,[0],[],[]⟩,⟨.r,0,[0],[],[]⟩,pN,pN,⟨.a,0,[],[],[]⟩,⟨.s,0,[],[],[]⟩]),
 (7,7,0,[⟨.r,0,[],[],[]⟩,pN,⟨.r,0,[],[1],[]⟩,pN,⟨.r,0,[],[1,2,3],[]⟩,⟨.z,0,[],[0,1,2,3,4],[]⟩,⟨.n,0,[],[0,1,2,3,4,5],[]⟩]),
 (9,10,1,[pN,⟨.r,0,[],[0],[99]⟩,pN,pN,pN,⟨.r,0,[],[4],[]⟩,⟨.e,99,[],[3,4,5],[]⟩,⟨.r,0,[],[0,1,2,3,4,5,6],[]⟩,⟨.n,0,[],[0,1,2,3,4,5,6,7],[]⟩,⟨.w,0,[],[0,1,2,3,4,5,6,7,8],[]⟩]),
 (10,12,2,[pN,pN,⟨.n,0,[],[1],[]⟩,⟨.n,0,[],[1,2],[]⟩,⟨.r,0,[],[1,2,3],[]⟩,pN,⟨.r,0,[],[5],[]⟩,⟨.n,0,[],[5,6],[]⟩,⟨.w,0,[],[1,2,3,4,5,6,7],[]⟩,⟨.n,0,[],[0,1,2,3,4,5,6,7,8],[]⟩,⟨.n,0,[],[0,1,2,3,4,5,6,7,8,9],[]⟩,⟨.w,1,[],[0,1,2,3,4,5,6,7,8,9,10],[]⟩]),
 (12,18,3,[pN,pN,⟨.r,0,[],[1],[]⟩,⟨.e,99,[],[0,1,2],[]⟩,pN,pN,⟨.r,0,[],[5],[99]⟩,⟨.e,99,[],[0,1,2,3,4,5,6],[]⟩,pN,pN,⟨.r,0,[],[9],[99]⟩,⟨.e,99,[],[0,1,2,3,4,5,6,7,8,9,10],[]⟩,⟨.n,0,[],[0,1,2,3,5,6,9,10],[]⟩,⟨.w,0,[],[0,1,2,3,4,5,6,7,8,9,10,11,12],[]⟩,⟨.n,0,[],[0,1,2,3,4,5,6,7,8,9,10,11,12,13],[]⟩,⟨.w,1,[],[0,1,2,3,4,5,6,7,8,9,10,11,12,13,14],[]⟩,⟨.n,0,[],[0,1,2,3,4,5,6,7,8,9,10,11,12,13,14,15],[]⟩,⟨.w,2,[],[0,1,2,3,4,5,6,7,8,9,10,11,12,13,14,15,16],[]⟩]),
 (14,7,0,[⟨.r,0,[],[],[]⟩,pN,⟨.n,0,[],[1],[]⟩,⟨.n,0,[],[1,2],[]⟩,⟨.r,0,[],[1,2,3],[905]⟩,⟨.e,905,[],[0],[]⟩,⟨.n,0,[],[0,1,2,3,4,5],[]⟩]),
 (4,7,0,[pN,⟨.n,0,[],[0],[]⟩,pN,⟨.n,0,[],[0,1,2],[]⟩,⟨.r,0,[],[],[]⟩,⟨.n,0,[],[0,1,2,3],[]⟩,⟨.e,906,[],[0,1,2,3,4,5],[]⟩]),
 (7,4,0,[pN,⟨.r,0,[],[],[]⟩,⟨.n,0,[],[0],[]⟩,⟨.e,903,[],[0,1,2],[]⟩]),
 (4,9,0,[pN,⟨.r,0,[],[0],[]⟩,pN,⟨.r,0,[],[2],[]⟩,⟨.r,0,[],[],[]⟩,⟨.n,0,[],[4],[]⟩,⟨.n,0,[],[0,1,4,5],[]⟩,⟨.n,0,[],[0,1,2,3,4,5,6],[]⟩,⟨.e,908,[],[0,1,2,3,4,5,6,7],[]⟩]),
 (9,8,0,[⟨.r,0,[],[],[]⟩,⟨.r,0,[],[],[]⟩,⟨.n,0,[],[1],[]⟩,⟨.n,0,[],[0,1,2],[]⟩,⟨.n,0,[],[0,1,2,3],[]⟩,⟨.n,0,[],[0,1,2,3],[]⟩,⟨.e,906,[],[0,1,2,3,4,5],[]⟩,⟨.e,907,[],[0,1,2,3,4,5,6],[]⟩]),
 (16,4,0,[⟨.r,0,[],[],[]⟩,⟨.r,0,[],[],[902]⟩,⟨.e,902,[],[0],[]⟩,⟨.e,903,[],[0,1,2],[]⟩]),
 (5,10,1,[pN,⟨.n,0,[],[0],[]⟩,⟨.n,0,[],[0,1],[]⟩,⟨.r,0,[],[0,1,2],[]⟩,pN,pN,⟨.r,0,[],[5],[]⟩,⟨.e,99,[],[0,1,2,3,4,5,6],[]⟩,⟨.n,0,[],[0,1,2,3,4,5,6,7],[]⟩,⟨.w,0,[],[0,1,2,3,4,5,6,7,8],[]⟩]),
 (6,8,0,[pN,⟨.n,0,[],[0],[]⟩,⟨.n,0,[],[0,1],[]⟩,⟨.r,0,[],[0,1,2],[]⟩,pN,⟨.r,0,[],[4],[]⟩,⟨.z,0,[],[0,1,2,3,4,5],[]⟩,⟨.n,0,[],[0,1,2,3,4,5,6],[]⟩]),
 (2,10,1,[pN,⟨.n,0,[],[0],[]⟩,⟨.n,0,[],[0,1],[]⟩,⟨.r,0,[],[0,1,2],[]⟩,pN,pN,⟨.r,0,[],[5],[]⟩,⟨.e,99,[],[0,1,2,3,4,5,6],[]⟩,⟨.n,0,[],[0,1,2,3,4,5,6,7],[]⟩,⟨.w,0,[],[0,1,2,3,4,5,6,7,8],[]⟩]),
 (9,9,0,[pN,⟨.n,0,[],[0],[]⟩,⟨.n,0,[],[0,1],[]⟩,⟨.n,0,[],[0,1,2],[]⟩,⟨.r,0,[],[0,1,2,3],[906]⟩,pN,⟨.e,906,[],[5],[]⟩,⟨.n,0,[],[0,1,2,3,4,5,6],[]⟩,⟨.e,908,[],[0,1,2,3,4,5,6,7],[]⟩]),
 (2,8,1,[pN,⟨.n,0,[],[0],[]⟩,⟨.n,0,[],[0,1],[]⟩,⟨.r,0,[],[0,1,2],[]⟩,pN,⟨.r,0,[],[],[]⟩,⟨.e,99,[],[0,1,2,3,4,5],[]⟩,⟨.w,0,[],[0,1,2,3,4,5,6],[]⟩]),
 (7,8,1,[pN,⟨.r,0,[],[0],[99]⟩,pN,pN,⟨.r,0,[],[],[]⟩,⟨.e,99,[],[3,4],[]⟩,⟨.r,0,[],[0,1,2,3,4,5],[]⟩,⟨.w,0,[],[0,1,2,3,4,5,6],[]⟩]),
 (2,9,1,[pN,⟨.n,0,[],[0],[]⟩,⟨.n,0,[],[0,1],[]⟩,⟨.r,0,[],[0,1,2],[]⟩,pN,pN,⟨.r,0,[],[],[]⟩,⟨.e,99,[],[0,1,2,3,4,5,6],[]⟩,⟨.w,0,[],[0,1,2,3,4,5,6,7],[]⟩]),
 (18,12,1,[pN,⟨.r,0,[],[0],[99]⟩,pN,pN,⟨.r,0,[],[],[]⟩,pN,pN,⟨.e,99,[],[4,5,6],[]⟩,⟨.r,0,[],[],[99]⟩,⟨.e,99,[],[3,4,5,6,7,8],[]⟩,⟨.r,0,[],[0,1,2,3,4,5,6,7,8,9],[]⟩,⟨.w,0,[],[0,1,2,3,4,5,6,7,8,9,10],[]⟩]),
 (11,9,0,[pN,⟨.r,0,[],[],[]⟩,pN,⟨.r,0,[],[],[]⟩,pN,⟨.r,0,[],[],[]⟩,pN,⟨.r,0,[],[],[]⟩,pN]),
 (7,18,1,[pN,pN,pN,pN,pN,pN,pN,pN,⟨.r,0,[],[],[]⟩,⟨.r,0,[],[],[]⟩,pN,pN,pN,pN,pN,pN,⟨.r,0,[],[],[]⟩,⟨.w,0,[],[],[]⟩]),
 (14,4,0,[⟨.r,0,[],[],[]⟩,⟨.r,0,[],[],[902]⟩,⟨.e,902,[],[0],[]⟩,⟨.e,903,[],[0,1,2],[]⟩]),
 (2,3,0,[⟨.r,0,[],[],[]⟩,pN,⟨.e,902,[],[0,1],[]⟩]),
 (5,6,0,[⟨.r,0,[],[],[]⟩,pN,pN,⟨.r,0,[],[1,2],[]⟩,⟨.r,0,[],[1,2,3],[]⟩,⟨.z,0,[],[0,1,2,3,4],[]⟩]),
 (9,6,0,[⟨.r,0,[],[],[]⟩,⟨.n,0,[],[0],[]⟩,⟨.n,0,[],[0,1],[]⟩,⟨.r,0,[],[],[904]⟩,⟨.e,904,[],[0,1,2],[]⟩,⟨.e,905,[],[0,1,2,3,4],[]⟩]),
 (26,4,0,[⟨.r,0,[],[],[]⟩,⟨.r,0,[],[],[902]⟩,⟨.e,902,[],[0],[]⟩,⟨.e,903,[],[0,1,2],[]⟩]),
 (5,8,0,[pN,⟨.r,0,[],[],[]⟩,⟨.r,0,[],[],[]⟩,⟨.n,0,[],[1,2],[]⟩,⟨.n,0,[],[0,1,2,3],[]⟩,⟨.r,0,[],[],[906]⟩,⟨.e,906,[],[0,1,2,3,4],[]⟩,⟨.e,907,[],[0,1,2,3,4,5,6],[]⟩]),
 (3,8,0,[⟨.r,0,[],[],[905]⟩,pN,⟨.r,0,[],[1],[]⟩,⟨.r,0,[],[0,1,2],[905]⟩,⟨.n,0,[],[1,2],[]⟩,⟨.e,905,[],[1,2,4],[]⟩,⟨.n,0,[],[0,1,2,3,4,5],[]⟩,⟨.e,907,[],[0,1,2,3,4,5,6],[]⟩]),
 (6,10,0,[pN,pN,⟨.r,0,[],[0,1],[]⟩,⟨.r,0,[],[0,1,2],[]⟩,pN,pN,⟨.r,0,[],[4,5],[]⟩,⟨.r,0,[],[4,5,6],[]⟩,⟨.z,0,[],[0,1,2,3,4,5,6,7],[]⟩,⟨.n,0,[],[0,1,2,3,4,5,6,7,8],[]⟩]),
 (12,10,0,[pN,pN,⟨.r,0,[],[],[]⟩,pN,pN,⟨.r,0,[],[],[]⟩,pN,pN,pN,pN]),
 (10,5,0,[pN,pN,pN,⟨.r,0,[],[],[]⟩,pN]),
 (21,22,0,[pN,pN,pN,pN,⟨.r,0,[],[],[]⟩,⟨.r,0,[],[],[]⟩,pN,pN,pN,pN,pN,pN,⟨.r,0,[],[],[]⟩,⟨.r,0,[],[],[]⟩,pN,⟨.r,0,[],[],[]⟩,pN,pN,⟨.r,0,[],[],[]⟩,⟨.r,0,[],[],[]⟩,pN,pN]),
 (22,13,0,[pN,pN,⟨.r,0,[],[0,1],[]⟩,⟨.r,0,[],[0,1,2],[]⟩,⟨.n,0,[],[0,1,2,3],[]⟩,pN,pN,⟨.r,0,[],[5,6],[910]⟩,⟨.r,0,[],[5,6,7],[910]⟩,⟨.n,0,[],[5,6,7,8],[]⟩,⟨.e,910,[],[0,1,2,3,4],[]⟩,⟨.n,0,[],[0,1,2,3,4,5,6,7,8,9,10],[]⟩,⟨.n,0,[],[0,1,2,3,4,5,6,7,8,9,10,11],[]⟩]),
 (2,5,0,[⟨.r,0,[],[],[]⟩,⟨.r,0,[],[],[]⟩,⟨.n,0,[],[1],[]⟩,⟨.e,903,[],[0,1,2],[]⟩,⟨.e,904,[],[0,1,2,3],[]⟩]),
 (16,10,0,[pN,⟨.n,0,[],[0],[]⟩,⟨.n,0,[],[0,1],[]⟩,⟨.r,0,[],[0,1,2],[]⟩,⟨.n,0,[],[0,1,2],[]⟩,⟨.n,0,[],[0,1,2],[]⟩,⟨.r,0,[],[0,1,2,4,5],[]⟩,⟨.r,0,[],[0,1,2,4,5,6],[]⟩,⟨.z,0,[],[0,1,2,3,4,5,6,7],[]⟩,⟨.n,0,[],[0,1,2,3,4,5,6,7,8],[]⟩]),
 (18,11,0,[pN,pN,⟨.r,0,[],[0,1],[]⟩,⟨.r,0,[],[0,1,2],[]⟩,⟨.r,0,[],[],[]⟩,⟨.r,0,[],[],[]⟩,⟨.n,0,[],[4,5],[]⟩,⟨.n,0,[],[0,1,2,3,4,5,6],[]⟩,⟨.r,0,[],[],[909]⟩,⟨.e,909,[],[0,1,2,3,4,5,6,7],[]⟩,⟨.e,910,[],[0,1,2,3,4,5,6,7,8,9],[]⟩]),
 (22,4,0,[⟨.r,0,[],[],[]⟩,⟨.r,0,[],[],[902]⟩,⟨.e,902,[],[0],[]⟩,⟨.e,903,[],[0,1,2],[]⟩]),
 (1,16,0,[pN,⟨.r,0,[],[],[]⟩,pN,pN,⟨.r,0,[],[],[]⟩,pN,pN,⟨.r,0,[],[],[]⟩,pN,pN,⟨.r,0,[],[],[]⟩,pN,pN,pN,pN,pN]),
 (5,5,0,[pN,⟨.n,0,[],[0],[]⟩,⟨.r,0,[],[],[903]⟩,⟨.e,903,[],[0,1],[]⟩,⟨.e,904,[],[0,1,2,3],[]⟩]),
 (8,4,0,[⟨.r,0,[],[],[]⟩,⟨.r,0,[],[],[902]⟩,⟨.e,902,[],[0],[]⟩,⟨.e,903,[],[0,1,2],[]⟩]),
 (34,10,0,[pN,⟨.r,0,[],[0],[]⟩,⟨.n,0,[],[0,1],[]⟩,⟨.n,0,[],[0,1,2],[]⟩,pN,⟨.r,0,[],[4],[]⟩,⟨.n,0,[],[0,1,2,4,5],[]⟩,⟨.n,0,[],[0,1,2,4,5,6],[]⟩,⟨.e,908,[],[0,1,2,3,4,5,6],[]⟩,⟨.n,0,[],[0,1,2,3,4,5,6,7,8],[]⟩]),
 (9,4,0,[⟨.r,0,[],[],[]⟩,⟨.r,0,[],[],[902]⟩,⟨.e,902,[],[0],[]⟩,⟨.e,903,[],[0,1,2],[]⟩])]
theorem cU {nat:qt} {mW:FuncId→List V→Option V} (zO:qw ab mW) (tK:mV ab nat) (n:Nat) {f:FuncId} {vs:List V} {r:V} (h:y0 ab tt (ev ab tt DJ nat mW noM n) f vs=some r):cx ab f vs r:=Yl tt_ok bU gM zO aaR tK n h
theorem HO {nat:qt} {mW:FuncId→List V→Option V} {r8:lT} (zO:qw ab mW) (N7:kp ab r8) (tK:mV ab nat) (n:Nat) {f:FuncId} {vs:List V} {r:V} (h:y0 ab tt (ev ab tt DJ nat mW r8 n) f vs=some r):cx ab f vs r:=Yl tt_ok bU gM zO N7 tK n h
theorem wk {nat:qt} {mW:FuncId→List V→Option V} {r8:lT} (zO:qw ab mW) (N7:kp ab r8) (tK:mV ab nat) (n:Nat) {f:FuncId} {vs:List V} {mem:List bm} {outs:List (V×List bm)} (h:Vb ab tt (ev ab tt DJ nat mW r8 n) f vs mem=some outs):eo ab f vs mem fun r m=>(r,m)∈outs:=aaS tt_ok bU gM zO N7 tK n h
noncomputable def Wf:qt:=fun f vs=>if f=317 then KF vs else aak ab f vs
theorem cg (hG:bk.g=some 1):mV ab Wf:=fun f vs r h=>by
 unfold Wf at h;split at h;·rename_i hf;subst hf;exact N8 (fn:=Tryz.f317) (by kernel_rfl) (by kernel_rfl) (by kernel_rfl) (by kernel_rfl) (by kernel_rfl) (fun w=>by simp only [globalAddr,program,Sem.run_bind];show (match ab.globals.findIdx? (fun x=>x.name == "internal/bytealg.MaxLen") with|some g=>_|none=>_:Sem Addr).run ab w=_;rw [show ab.globals.findIdx? (fun x=>x.name == "internal/bytealg.MaxLen")=some 1 from by kernel_rfl];rfl) hG h
 exact Vu h
end Go.Proofs.YtnboooapeopjoaaGreatDoor
end
