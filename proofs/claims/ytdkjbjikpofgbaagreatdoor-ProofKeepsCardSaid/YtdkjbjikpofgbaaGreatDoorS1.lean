/- A part of the proofs of this seat's statements: H1, S1, S2, S3, S4, S5, S6, S7, S8, S9. It has no conditions of its own. -/
import Derived.Test.YtdkjbjikpofgbaaGreatDoorA1
import Derived.Test.YtdkjbjikpofgbaaGreatDoorRows
import Derived.Test.YtdkjbjikpofgbaaGreatDoorA2
import Derived.Test.YtdkjbjikpofgbaaGreatDoorD1
namespace Go.Ab
open Go Go.Proofs
def tab:List (TypeId×TI):=[
 (1,⟨1,[.nilf],.other⟩),
 (2,⟨1,[.int .i64 0],.int .i64⟩),
 (3,⟨1,[.int .i64 0],.int .i64⟩),
 (4,⟨1,[.bool false],.bool⟩),
 (5,⟨1,[.int .u8 0],.int .u8⟩),
 (7,⟨4,[.int .i64 0,.int .i64 0,.bool false,.int .u8 0],.strct [(0,1,false),(1,1,false),(2,1,false),(3,1,false)]⟩),
 (9,⟨1,[.str ⟨#[]⟩],.str⟩),
 (12,⟨1,[.int .u64 0],.int .u64⟩),
 (13,⟨2,[.str ⟨#[]⟩,.int .u64 0],.strct [(0,1,false),(1,1,false)]⟩),
 (15,⟨1,[.nilp],.other⟩),
 (16,⟨1,[.nilp],.other⟩),
 (17,⟨1,[.nilp],.other⟩),
 (18,⟨1,[.nilp],.strct [(0,1,false)]⟩),
 (20,⟨1,[.raw .nilIface],.other⟩),
 (21,⟨1,[.int .i32 0],.int .i32⟩),
 (22,⟨1,[.slice .nil (.t .int [])],.slc (some .int) 1 8⟩),
 (23,⟨1,[.nilf],.other⟩),
 (24,⟨1,[.nilf],.other⟩),
 (25,⟨1,[.nilp],.other⟩),
 (26,⟨1,[.nilf],.other⟩),
 (27,⟨1,[.slice .nil (.t .fm [])],.slc (some .fm) 5 88⟩),
 (28,⟨1,[.nilf],.other⟩),
 (29,⟨1,[.slice .nil (.t .ty [])],.slc (some .ty) 2 32⟩),
 (30,⟨2,[.slice .nil (.t .ty []),.slice .nil (.t .fm [])],.strct [(0,1,false),(1,1,false)]⟩),
 (31,⟨2,[.slice .nil (.t .ty []),.slice .nil (.t .fm [])],.strct [(0,1,false),(1,1,false)]⟩),
 (32,⟨1,[.nilf],.other⟩),
 (33,⟨2,[.int .i64 0,.slice .nil (.t .ty [])],.strct [(0,1,false),(1,1,false)]⟩),
 (34,⟨2,[.int .i64 0,.slice .nil (.t .ty [])],.strct [(0,1,false),(1,1,false)]⟩),
 (35,⟨1,[.slice .nil (.t .tm [])],.slc (some .tm) 5 72⟩),
 (36,⟨1,[.slice .nil (.t .pf [])],.slc (some .pf) 7 120⟩),
 (37,⟨7,[.int .i64 0,.int .i64 0,.int .i64 0,.slice .nil (.t .ty []),.slice .nil (.t .tm []),.slice .nil (.t .fm []),.slice .nil (.t .pf [])],.strct [(0,1,false),(1,1,false),(2,2,true),(4,1,false),(5,1,false),(6,1,false)]⟩),
 (38,⟨7,[.int .i64 0,.int .i64 0,.int .i64 0,.slice .nil (.t .ty []),.slice .nil (.t .tm []),.slice .nil (.t .fm []),.slice .nil (.t .pf [])],.strct [(0,1,false),(1,1,false),(2,2,true),(4,1,false),(5,1,false),(6,1,false)]⟩),
 (39,⟨1,[.nilf],.other⟩),
 (40,⟨1,[.int .i64 0],.int .i64⟩),
 (42,⟨1,[.nilf],.other⟩),
 (43,⟨5,[.int .i64 0,.int .i64 0,.int .i64 0,.slice .nil (.t .ty []),.slice .nil (.t .tm [])],.strct [(0,1,false),(1,1,false),(2,2,true),(4,1,false)]⟩),
 (44,⟨5,[.int .i64 0,.int .i64 0,.int .i64 0,.slice .nil (.t .ty []),.slice .nil (.t .tm [])],.strct [(0,1,false),(1,1,false),(2,2,true),(4,1,false)]⟩),
 (45,⟨1,[.nilf],.other⟩),
 (46,⟨1,[.nilf],.other⟩),
 (47,⟨1,[.nilf],.other⟩),
 (49,⟨1,[.nilf],.other⟩),
 (50,⟨1,[.nilf],.other⟩),
 (52,⟨1,[.nilf],.other⟩),
 (53,⟨1,[.nilf],.other⟩),
 (54,⟨1,[.nilf],.other⟩),
 (55,⟨1,[.nilf],.other⟩),
 (56,⟨1,[.nilf],.other⟩),
 (57,⟨1,[.nilf],.other⟩),
 (58,⟨1,[.nilf],.other⟩),
 (60,⟨1,[.nilf],.other⟩),
 (61,⟨1,[.nilf],.other⟩),
 (62,⟨1,[.nilf],.other⟩),
 (63,⟨1,[.nilf],.other⟩),
 (64,⟨5,[.int .i64 0,.int .i64 0,.slice .nil (.t .ty []),.slice .nil (.t .tm []),.slice .nil (.t .fm [])],.strct [(0,1,false),(1,2,true),(3,1,false),(4,1,false)]⟩),
 (65,⟨5,[.int .i64 0,.int .i64 0,.slice .nil (.t .ty []),.slice .nil (.t .tm []),.slice .nil (.t .fm [])],.strct [(0,1,false),(1,2,true),(3,1,false),(4,1,false)]⟩),
 (66,⟨1,[.nilf],.other⟩),
 (67,⟨1,[.nilf],.other⟩),
 (68,⟨2,[.slice .nil (.t .int []),.int .i64 0],.strct [(0,1,false),(1,1,false)]⟩),
 (69,⟨2,[.slice .nil (.t .int []),.int .i64 0],.strct [(0,1,false),(1,1,false)]⟩),
 (70,⟨1,[.nilf],.other⟩),
 (71,⟨1,[.nilf],.other⟩),
 (72,⟨1,[.nilf],.other⟩),
 (73,⟨1,[.nilf],.other⟩),
 (74,⟨1,[.nilf],.other⟩),
 (75,⟨6,[.int .i64 0,.int .i64 0,.slice .nil (.t .ty []),.slice .nil (.t .tm []),.slice .nil (.t .fm []),.slice .nil (.t .int [])],.strct [(0,5,true),(5,1,false)]⟩),
 (76,⟨6,[.int .i64 0,.int .i64 0,.slice .nil (.t .ty []),.slice .nil (.t .tm []),.slice .nil (.t .fm []),.slice .nil (.t .int [])],.strct [(0,5,true),(5,1,false)]⟩),
 (78,⟨1,[.nilf],.other⟩),
 (79,⟨1,[.nilf],.other⟩),
 (80,⟨1,[.nilf],.other⟩),
 (81,⟨1,[.nilf],.other⟩),
 (82,⟨1,[.nilf],.other⟩),
 (83,⟨1,[.nilf],.other⟩),
 (84,⟨1,[.nilf],.other⟩),
 (85,⟨1,[.nilf],.other⟩),
 (86,⟨1,[.nilf],.other⟩),
 (87,⟨1,[.nilf],.other⟩),
 (88,⟨1,[.nilf],.other⟩),
 (89,⟨1,[.nilf],.other⟩),
 (90,⟨1,[.nilf],.other⟩),
 (91,⟨1,[.nilf],.other⟩),
 (92,⟨1,[.nilf],.other⟩),
 (93,⟨1,[.nilf],.other⟩),
 (94,⟨1,[.nilf],.other⟩),
 (95,⟨1,[.nilp],.other⟩),
 (96,⟨2,[.int .i64 0,.bool false],.strct [(0,1,false),(1,1,false)]⟩),
 (97,⟨2,[.int .i64 0,.bool false],.strct [(0,1,false),(1,1,false)]⟩),
 (98,⟨1,[.nilf],.other⟩),
 (99,⟨2,[.int .i64 0,.int .i64 0],.strct [(0,1,false),(1,1,false)]⟩),
 (100,⟨2,[.int .i64 0,.int .i64 0],.strct [(0,1,false),(1,1,false)]⟩),
 (101,⟨1,[.nilf],.other⟩),
 (102,⟨1,[.nilf],.other⟩),
 (103,⟨1,[.nilf],.other⟩),
 (104,⟨1,[.nilf],.other⟩),
 (105,⟨1,[.nilf],.other⟩),
 (106,⟨1,[.nilf],.other⟩),
 (107,⟨1,[.nilf],.other⟩),
 (108,⟨3,[.nilf,.nilf,.nilf],.strct [(0,1,false),(1,1,false),(2,1,false)]⟩),
 (109,⟨3,[.nilf,.nilf,.nilf],.strct [(0,1,false),(1,1,false),(2,1,false)]⟩),
 (110,⟨1,[.nilf],.other⟩),
 (111,⟨1,[.nilf],.other⟩),
 (112,⟨1,[.nilf],.other⟩),
 (113,⟨1,[.nilf],.other⟩),
 (114,⟨1,[.nilf],.other⟩),
 (115,⟨1,[.nilf],.other⟩),
 (116,⟨1,[.nilf],.other⟩),
 (117,⟨1,[.nilf],.other⟩),
 (118,⟨1,[.nilf],.other⟩),
 (119,⟨1,[.nilf],.other⟩),
 (120,⟨1,[.nilf],.other⟩),
 (121,⟨1,[.raw (.map none)],.other⟩),
 (122,⟨1,[.raw (.map none)],.other⟩),
 (123,⟨1,[.nilf],.other⟩),
 (124,⟨1,[.nilf],.other⟩),
 (125,⟨1,[.nilf],.other⟩),
 (126,⟨1,[.nilf],.other⟩),
 (127,⟨1,[.nilf],.other⟩),
 (128,⟨1,[.nilf],.other⟩),
 (129,⟨1,[.nilf],.other⟩),
 (130,⟨1,[.nilf],.other⟩),
 (132,⟨1,[.nilf],.other⟩),
 (134,⟨1,[.nilf],.other⟩),
 (135,⟨1,[.nilf],.other⟩),
 (137,⟨1,[.nilf],.other⟩),
 (138,⟨1,[.nilf],.other⟩),
 (139,⟨1,[.nilf],.other⟩),
 (140,⟨1,[.nilf],.other⟩),
 (141,⟨1,[.nilf],.other⟩),
 (142,⟨3,[.slice .nil (.t .fm []),.slice .nil (.t .ty []),.slice .nil (.t .fm [])],.strct [(0,1,false),(1,1,false),(2,1,false)]⟩),
 (143,⟨3,[.slice .nil (.t .fm []),.slice .nil (.t .ty []),.slice .nil (.t .fm [])],.strct [(0,1,false),(1,1,false),(2,1,false)]⟩),
 (144,⟨1,[.nilf],.other⟩),
 (145,⟨1,[.nilf],.other⟩),
 (146,⟨1,[.nilf],.other⟩),
 (147,⟨1,[.nilf],.other⟩),
 (148,⟨1,[.nilf],.other⟩),
 (149,⟨1,[.nilf],.other⟩),
 (150,⟨1,[.nilf],.other⟩),
 (151,⟨1,[.nilf],.other⟩),
 (152,⟨8,[.bool false,.bool false,.int .i64 0,.int .i64 0,.int .i64 0,.int .i64 0,.int .i64 0,.int .i64 0],.strct [(0,1,false),(1,1,false),(2,1,false),(3,1,false),(4,1,false),(5,1,false),(6,1,false),(7,1,false)]⟩),
 (153,⟨8,[.bool false,.bool false,.int .i64 0,.int .i64 0,.int .i64 0,.int .i64 0,.int .i64 0,.int .i64 0],.strct [(0,1,false),(1,1,false),(2,1,false),(3,1,false),(4,1,false),(5,1,false),(6,1,false),(7,1,false)]⟩),
 (155,⟨1,[.nilf],.other⟩),
 (156,⟨1,[.nilf],.other⟩),
 (158,⟨1,[.nilf],.other⟩),
 (159,⟨1,[.nilf],.other⟩),
 (160,⟨1,[.nilf],.other⟩),
 (161,⟨1,[.nilf],.other⟩),
 (162,⟨1,[.nilf],.other⟩),
 (163,⟨1,[.nilf],.other⟩),
 (164,⟨1,[.nilf],.other⟩),
 (165,⟨1,[.nilf],.other⟩),
 (166,⟨1,[.nilf],.other⟩),
 (167,⟨3,[.nilf,.nilf,.nilf],.strct [(0,1,false),(1,1,false),(2,1,false)]⟩),
 (168,⟨3,[.nilf,.nilf,.nilf],.strct [(0,1,false),(1,1,false),(2,1,false)]⟩),
 (169,⟨1,[.nilf],.other⟩),
 (170,⟨1,[.nilf],.other⟩),
 (171,⟨1,[.nilf],.other⟩),
 (172,⟨1,[.nilp],.other⟩),
 (173,⟨2,[.int .i64 0,.bool false],.strct [(0,1,false),(1,1,false)]⟩),
 (174,⟨2,[.int .i64 0,.bool false],.strct [(0,1,false),(1,1,false)]⟩),
 (175,⟨1,[.nilf],.other⟩),
 (176,⟨1,[.nilf],.other⟩),
 (177,⟨1,[.nilf],.other⟩),
 (178,⟨1,[.nilf],.other⟩),
 (179,⟨1,[.nilf],.other⟩),
 (180,⟨1,[.nilf],.other⟩),
 (182,⟨1,[.nilf],.other⟩),
 (183,⟨1,[.nilf],.other⟩),
 (185,⟨1,[.nilf],.other⟩),
 (186,⟨1,[.nilf],.other⟩),
 (187,⟨1,[.nilf],.other⟩),
 (188,⟨1,[.nilf],.other⟩),
 (189,⟨1,[.nilf],.other⟩),
 (190,⟨168,[.bool false,.bool false,.int .i64 0,.int .i64 0,.int .i64 0,.int .i64 0,.int .i64 0,.int .i64 0,.bool false,.bool false,.int .i64 0,.int .i64 0,.int .i64 0,.int .i64 0,.int .i64 0,.int .i64 0,.bool false,.bool false,.int .i64 0,.int .i64 0,.int .i64 0,.int .i64 0,.int .i64 0,.int .i64 0,.bool false,.bool false,.int .i64 0,.int .i64 0,.int .i64 0,.int .i64 0,.int .i64 0,.int .i64 0,.bool false,.bool false,.int .i64 0,.int .i64 0,.int .i64 0,.int .i64 0,.int .i64 0,.int .i64 0,.bool false,.bool false,.int .i64 0,.int .i64 0,.int .i64 0,.int .i64 0,.int .i64 0,.int .i64 0,.bool false,.bool false,.int .i64 0,.int .i64 0,.int .i64 0,.int .i64 0,.int .i64 0,.int .i64 0,.bool false,.bool false,.int .i64 0,.int .i64 0,.int .i64 0,.int .i64 0,.int .i64 0,.int .i64 0,.bool false,.bool false,.int .i64 0,.int .i64 0,.int .i64 0,.int .i64 0,.int .i64 0,.int .i64 0,.bool false,.bool false,.int .i64 0,.int .i64 0,.int .i64 0,.int .i64 0,.int .i64 0,.int .i64 0,.bool false,.bool false,.int .i64 0,.int .i64 0,.int .i64 0,.int .i64 0,.int .i64 0,.int .i64 0,.bool false,.bool false,.int .i64 0,.int .i64 0,.int .i64 0,.int .i64 0,.int .i64 0,.int .i64 0,.bool false,.bool false,.int .i64 0,.int .i64 0,.int .i64 0,.int .i64 0,.int .i64 0,.int .i64 0,.bool false,.bool false,.int .i64 0,.int .i64 0,.int .i64 0,.int .i64 0,.int .i64 0,.int .i64 0,.bool false,.bool false,.int .i64 0,.int .i64 0,.int .i64 0,.int .i64 0,.int .i64 0,.int .i64 0,.bool false,.bool false,.int .i64 0,.int .i64 0,.int .i64 0,.int .i64 0,.int .i64 0,.int .i64 0,.bool false,.bool false,.int .i64 0,.int .i64 0,.int .i64 0,.int .i64 0,.int .i64 0,.int .i64 0,.bool false,.bool false,.int .i64 0,.int .i64 0,.int .i64 0,.int .i64 0,.int .i64 0,.int .i64 0,.bool false,.bool false,.int .i64 0,.int .i64 0,.int .i64 0,.int .i64 0,.int .i64 0,.int .i64 0,.bool false,.bool false,.int .i64 0,.int .i64 0,.int .i64 0,.int .i64 0,.int .i64 0,.int .i64 0,.bool false,.bool false,.int .i64 0,.int .i64 0,.int .i64 0,.int .i64 0,.int .i64 0,.int .i64 0],.arr 21 8 true⟩),
 (191,⟨1,[.nilf],.other⟩),
 (192,⟨1,[.nilf],.other⟩),
 (193,⟨1,[.nilf],.other⟩),
 (194,⟨1,[.nilf],.other⟩),
 (195,⟨1,[.nilf],.other⟩),
 (196,⟨1,[.nilf],.other⟩),
 (197,⟨1,[.nilf],.other⟩),
 (198,⟨1,[.nilf],.other⟩),
 (199,⟨1,[.nilf],.other⟩),
 (200,⟨1,[.nilf],.other⟩),
 (201,⟨2,[.int .i64 0,.int .i64 0],.strct [(0,1,false),(1,1,false)]⟩),
 (202,⟨2,[.int .i64 0,.int .i64 0],.strct [(0,1,false),(1,1,false)]⟩),
 (203,⟨1,[.nilf],.other⟩),
 (204,⟨1,[.slice .nil (.u 2 [])],.slc none 2 16⟩),
 (205,⟨1,[.nilf],.other⟩),
 (206,⟨1,[.nilf],.other⟩),
 (207,⟨1,[.nilf],.other⟩),
 (208,⟨5,[.int .i64 0,.int .i64 0,.int .i64 0,.bool false,.bool false],.strct [(0,1,false),(1,1,false),(2,1,false),(3,1,false),(4,1,false)]⟩),
 (209,⟨5,[.int .i64 0,.int .i64 0,.int .i64 0,.bool false,.bool false],.strct [(0,1,false),(1,1,false),(2,1,false),(3,1,false),(4,1,false)]⟩),
 (211,⟨1,[.nilf],.other⟩),
 (212,⟨1,[.nilf],.other⟩),
 (213,⟨1,[.nilf],.other⟩),
 (214,⟨1,[.nilf],.other⟩),
 (215,⟨1,[.nilf],.other⟩),
 (216,⟨1,[.nilf],.other⟩),
 (217,⟨14,[.int .i64 0,.int .i64 0,.int .i64 0,.int .i64 0,.int .i64 0,.int .i64 0,.int .i64 0,.int .i64 0,.int .i64 0,.int .i64 0,.int .i64 0,.int .i64 0,.int .i64 0,.int .i64 0],.arr 14 1 false⟩),
 (218,⟨1,[.nilf],.other⟩),
 (219,⟨1,[.nilf],.other⟩),
 (220,⟨1,[.nilf],.other⟩),
 (221,⟨1,[.nilf],.other⟩),
 (222,⟨1,[.nilf],.other⟩),
 (223,⟨1,[.nilf],.other⟩),
 (224,⟨1,[.nilf],.other⟩),
 (225,⟨1,[.nilf],.other⟩),
 (226,⟨1,[.nilf],.other⟩),
 (228,⟨1,[.nilf],.other⟩),
 (229,⟨1,[.nilf],.other⟩),
 (231,⟨1,[.nilf],.other⟩),
 (232,⟨1,[.nilf],.other⟩),
 (233,⟨1,[.nilf],.other⟩),
 (234,⟨1,[.nilf],.other⟩),
 (235,⟨1,[.nilf],.other⟩),
 (236,⟨1,[.nilf],.other⟩),
 (237,⟨1,[.nilf],.other⟩),
 (238,⟨1,[.int .u64 0],.int .u64⟩),
 (239,⟨1,[.nilf],.other⟩),
 (240,⟨1,[.nilf],.other⟩),
 (241,⟨1,[.nilf],.other⟩),
 (242,⟨1,[.nilf],.other⟩),
 (244,⟨1,[.nilf],.other⟩),
 (245,⟨1,[.nilf],.other⟩),
 (246,⟨1,[.int .i64 0],.int .i64⟩),
 (248,⟨1,[.nilf],.other⟩),
 (249,⟨1,[.nilf],.other⟩),
 (250,⟨1,[.nilf],.other⟩),
 (251,⟨1,[.nilf],.other⟩),
 (252,⟨1,[.nilf],.other⟩),
 (253,⟨1,[.int .u32 0],.int .u32⟩),
 (254,⟨1,[.nilf],.other⟩),
 (255,⟨1,[.int .u64 0],.int .u64⟩),
 (256,⟨1,[.nilf],.other⟩),
 (257,⟨1,[.nilf],.other⟩),
 (259,⟨1,[.nilf],.other⟩),
 (260,⟨1,[.int .u64 0],.int .u64⟩),
 (261,⟨1,[.nilf],.other⟩),
 (262,⟨1,[.nilf],.other⟩),
 (263,⟨1,[.nilf],.other⟩),
 (264,⟨1,[.nilp],.other⟩),
 (265,⟨1,[.nilf],.other⟩),
 (266,⟨1,[.nilf],.other⟩),
 (267,⟨1,[.nilf],.other⟩),
 (268,⟨1,[.nilp],.other⟩),
 (270,⟨1,[.nilf],.other⟩),
 (271,⟨1,[.nilf],.other⟩),
 (272,⟨4,[.nilp,.nilp,.nilp,.str ⟨#[]⟩],.strct [(0,1,false),(1,1,false),(2,1,false),(3,1,false)]⟩),
 (274,⟨0,[],.arr 0 1 false⟩),
 (277,⟨1,[.nilf],.other⟩),
 (280,⟨1,[.nilf],.other⟩),
 (281,⟨1,[.nilp],.other⟩),
 (284,⟨11,[.int .u64 0,.int .u64 0,.int .u32 0,.int .u8 0,.int .u8 0,.int .u8 0,.int .u8 0,.nilf,.nilp,.int .i32 0,.int .i32 0],.strct [(0,1,false),(1,1,false),(2,1,false),(3,1,false),(4,1,false),(5,1,false),(6,1,false),(7,1,false),(8,1,false),(9,1,false),(10,1,false)]⟩)]
set_option maxRecDepth 100000
theorem Ycw:tab.all (fun p=>tiB Tryz.prog p.1 p.2)=true:=by kernel_rfl
def ruV:List V:=[.bool false,.bool false,.i 0,.i 0,.i 0,.i 0,.i 0,.i 0,.bool true,.bool false,.i 0,.i 0,.i 0,.i 0,.i 0,.i 0,.bool true,.bool false,.i 0,.i 0,.i 0,.i 0,.i 0,.i 0,.bool false,.bool false,.i 0,.i 0,.i 2,.i 0,.i 0,.i 0,.bool false,.bool false,.i 0,.i 0,.i 1,.i 0,.i 0,.i 0,.bool false,.bool false,.i 0,.i 0,.i 1,.i 0,.i 0,.i 0,.bool false,.bool false,.i 0,.i 1,.i 1,.i 0,.i 0,.i 1,.bool false,.bool false,.i 0,.i 0,.i 2,.i 0,.i 0,.i 0,.bool false,.bool true,.i 0,.i 0,.i 1,.i 0,.i 1,.i 0,.bool false,.bool false,.i 1,.i 0,.i 1,.i 0,.i 0,.i 0,.bool false,.bool false,.i 1,.i 1,.i 1,.i 0,.i 0,.i 0,.bool false,.bool false,.i 0,.i 0,.i 2,.i 0,.i 1,.i 1,.bool false,.bool true,.i 0,.i 0,.i 1,.i 0,.i 1,.i 0,.bool false,.bool false,.i 1,.i 0,.i 1,.i 0,.i 0,.i 0,.bool false,.bool false,.i 1,.i 1,.i 1,.i 0,.i 0,.i 0,.bool false,.bool false,.i 0,.i 0,.i 2,.i 0,.i 1,.i 1,.bool false,.bool false,.i 1,.i 1,.i 2,.i 1,.i 1,.i 1,.bool false,.bool false,.i 1,.i 1,.i 2,.i 1,.i 2,.i 1,.bool false,.bool false,.i 1,.i 0,.i 0,.i 0,.i 0,.i 0,.bool false,.bool false,.i 0,.i 1,.i 2,.i 1,.i 0,.i 0,.bool false,.bool false,.i 0,.i 0,.i 1,.i 0,.i 0,.i 0]
def arV:List V:=[.i 0,.i 0,.i 1,.i 2,.i 0,.i 1,.i 3,.i 0,.i 2,.i 3,.i 2,.i 1,.i 1,.i 0]
noncomputable def E:Env:=⟨Tryz.prog,[(1,arV),(0,ruV)],tab,Ycw⟩
end Go.Ab
namespace Go.Ab
open Go Go.Proofs
set_option maxRecDepth 100000
set_option linter.all false
theorem mixed:E.P.follows .mixedOrders=true:=Tryz.checked.mixed
theorem x8:∀(b:Nat) (t:Ty),t.size≤b→b<1099511627776→PC E 109 [.agg t.view] (.agg t.view):=by
 intro b
 induction b with
 |zero=>intro t h;have:=t.size_pos;omega
 |succ b ih=>
 intro t hsz hb
 have hsz':=Ty.size_eq t
 have hlen:=zc Ty.size Ty.size_pos t.args
 refine M.F Tryz.func109 ?_
 repeat'(first|refine M.gw ?_|fail)
 refine AW.range t.args.length (fun m=>True)
  (fun m=>([(1,.ptr 0 0),(2,.ptr 1 0),(3,.slice (.own 2) (.t .ty (t.args.take m))),(7,.s .ty t.args),(8,.i t.args.length),(9,.i m)],⟨3,[(0,.var t.view),(1,.var [.i 0,.slice .nil (.t .ty [])]),(2,.row)]⟩))
  (by omega) (fun m=>rfl) (fun m=>rfl) rfl trivial (M.W [some 0,some 1,none]) ?_ ?_
 ·intro m hm hP
  have hs2:=zb Ty.size (List.getElem_mem hm)
  repeat'(first|refine M.gw ?_|refine M.c2 (ih _ ?_ ?_) ?_|((with_reducible show @LE.le Nat _ _ _);omega)|((with_reducible show @LT.lt Nat _ _ _);omega)|fail)
  exact⟨rfl,trivial,(M.W [some 0,some 1,some 4] (hf:=(by(repeat'(first|exact trivial|refine And.intro ?_ ?_|refine⟨_,U,_,U,?_⟩|exact VLe.refl _|exact VLe.of_eq (by simp[Sto.upd,List.take_append_getElem])));done)))⟩
 ·intro hP
  repeat'(first|refine M.gw ?_|fail)
  simp[zi,V.wk,V.wks,za,Ty.view,Tm.view]
theorem Zjp:∀(b:Nat) (t:Ty),t.size≤b→b<1099511627776→PC E 177 [.agg t.view] (.agg t.view):=by
 intro b
 induction b with
 |zero=>intro t h;have:=t.size_pos;omega
 |succ b ih=>
 intro t hsz hb
 have hsz':=Ty.size_eq t
 have hlen:=zc Ty.size Ty.size_pos t.args
 refine M.F Tryz.func177 ?_
 repeat'(first|refine M.gw ?_|fail)
 refine AW.range t.args.length (fun m=>True)
  (fun m=>([(1,.ptr 0 0),(2,.ptr 1 0),(3,.ptr 2 0),(10,.s .ty t.args),(11,.i t.args.length),(12,.i m)],⟨4,[(0,.var t.view),(1,.var [.i 0,.slice .nil (.t .ty [])]),(2,.var [.i t.kind,.slice (.own 3) (.t .ty (t.args.take m))]),(3,.row)]⟩))
  (by omega) (fun m=>rfl) (fun m=>rfl) rfl trivial (M.W [some 0,some 1,some 2,none]) ?_ ?_
 ·intro m hm hP
  have hs2:=zb Ty.size (List.getElem_mem hm)
  repeat'(first|refine M.gw ?_|refine M.c2 (ih _ ?_ ?_) ?_|((with_reducible show @LE.le Nat _ _ _);omega)|((with_reducible show @LT.lt Nat _ _ _);omega)|fail)
  exact⟨rfl,trivial,(M.W [some 0,some 1,some 2,some 5] (he:=(by(repeat'(first|exact trivial|exact Or.inr ⟨_,U,rfl⟩|refine And.intro ?_ ?_|refine⟨_,U,_,U,_,U,?_⟩|exact VLe.refl _|exact VLe.of_eq (by simp[Sto.upd,List.take_append_getElem])));done)))⟩
 ·intro hP
  repeat'(first|refine M.gw ?_|fail)
  simp[zi,V.wk,V.wks,za,Ty.view,Tm.view]
theorem Zmm:∀(b:Nat) (t:Ty),t.size≤b→b<1099511627776→PC E 217 [.agg t.view] (Zlq t):=by
 intro b
 induction b with
 |zero=>intro t h;have:=t.size_pos;omega
 |succ b ih=>
 intro t hsz hb
 have hsz':=Ty.size_eq t
 have hlen:=zc Ty.size Ty.size_pos t.args
 have hsh:=Ty.shape_eq t
 refine M.F Tryz.func217 ?_
 repeat'(first|refine M.gw ?_|fail)
 refine AW.cutT (ι:={n:Nat // arT t.kind=some n}) (fun n=>([(1,.ptr 0 0),(4,.i n.1)],⟨1,[(0,.var t.view)]⟩)) ?_ ?_
 ·refine AW.block ?_
  repeat'(first|refine M.gw ?_|refine AW.condS U (fun h=> ?_) (fun h=> ?_)|fail)
  ·exact ⟨⟨0,by simp at h;simp[arT,h]⟩,(M.W [some 0])⟩
  ·exact ⟨⟨0,by simp at h;simp[arT,h]⟩,(M.W [some 0])⟩
  ·exact ⟨⟨0,by simp at h;simp[arT,h]⟩,(M.W [some 0])⟩
  ·exact ⟨⟨2,by simp at h;simp[arT,h]⟩,(M.W [some 0])⟩
  ·exact ⟨⟨2,by simp at h;simp[arT,h]⟩,(M.W [some 0])⟩
  ·have:t.shape=false:=by simp at*;simp[hsh,arT, *]
   simp[Zlq,Ty.nodes,this,zi,za,V.wk,V.wks]
 rintro⟨n,hn⟩
 repeat'(first|refine M.gw ?_|refine AW.condS U (fun h=> ?_) (fun h=> ?_)|fail)
 ·have h1:¬t.args.length=n:=by simp at h;omega
  have:t.shape=false:=by simp[hsh,hn,h1]
  simp[Zlq,Ty.nodes,this,zi,za,V.wk,V.wks]
 have hn':t.args.length=n:=by simp at h;omega
 refine AW.range t.args.length (fun m=>∀j (hj:j<t.args.length),j<m→(t.args[j]).shape=true)
  (fun m=>([(1,.ptr 0 0),(5,.i (1+((t.args.take m).map Ty.size).sum)),(25,.s .ty t.args),(26,.i t.args.length),(27,.i m)],⟨1,[(0,.var t.view)]⟩))
  (by omega) (fun m=>rfl) (fun m=>rfl) rfl (by intro j hj h;omega) (M.W [some 0]) ?_ ?_
 ·intro m hm hP
  have hs1:=yk Ty.size t.args m hm
  have hs2:=zb Ty.size (List.getElem_mem hm)
  have hs3:=zk Ty.size t.args (m+1)
  have hs4:=Ty.nodes_le t.args[m]
  repeat'(first|refine M.gw ?_|refine M.c2 (ih _ ?_ ?_) ?_|refine AW.condS U (fun h=> ?_) (fun h=> ?_)|((with_reducible show @LE.le Nat _ _ _);omega)|((with_reducible show @LT.lt Nat _ _ _);omega)|fail)
  ·have h1:(t.args[m]).shape=false:=by simpa using h
   have:t.shape=false:=by rw[hsh,wo Ty.shape hm h1,Bool.and_false]
   simp[Zlq,Ty.nodes,this,zi,za,V.wk,V.wks]
  ·have hh:(t.args[m]).shape=true:=by simpa using h
   refine⟨rfl,yb (p:=fun t=>Ty.shape t=true) hm hP hh,?_⟩
   have e:(1+((((t.args.take (m+1)).map Ty.size).sum:Nat):Int))=1+(((t.args.take m).map Ty.size).sum:Nat)+t.args[m].nodes:=by simp only[Ty.nodes,hh,hs1];simp;omega
   simp only[e]
   exact(M.W [some 0])
 ·intro hP
  have:t.shape=true:=by simp only[hsh,hn,hn',Zac Ty.shape t.args fun j hj=>hP j hj hj];simp
  repeat'(first|refine M.gw ?_|fail)
  simp[Zlq,Ty.nodes,this,zi,za,hsz',V.wk,V.wks]
theorem Zbb(i:Int):PC E 44 [.i i] (.agg (Tm.mk 1 i (.mk 0 []) []).view):=by
 refine M.F Tryz.func44 ?_
 repeat'(first|refine M.gw ?_|fail)
 simp[zi,V.wk,V.wks,za,Ty.view,Tm.view]
theorem Zxj(i:Int):PC E 182 [.i i] (.agg (Tm.mk 1 i (.mk 0 []) []).view):=by
 refine M.F Tryz.func182 ?_
 repeat'(first|refine M.gw ?_|fail)
 simp[zi,V.wk,V.wks,za,Ty.view,Tm.view]
theorem vb:PC E 35 [] (.agg (Ty.mk 1 []).view):=by
 refine M.F Tryz.func35 ?_
 repeat'(first|refine M.gw ?_|fail)
 simp[zi,V.wk,V.wks,za,Ty.view,Tm.view]
theorem uc:PC E 50 [] (.agg (Ty.mk 2 []).view):=by
 refine M.F Tryz.func50 ?_
 repeat'(first|refine M.gw ?_|fail)
 simp[zi,V.wk,V.wks,za,Ty.view,Tm.view]
theorem Zrp:PC E 75 [] (.agg (Ty.mk 5 []).view):=by
 refine M.F Tryz.func75 ?_
 repeat'(first|refine M.gw ?_|fail)
 simp[zi,V.wk,V.wks,za,Ty.view,Tm.view]
theorem Ycq(x y:Ty)(hx:x.size<1099511627776)(hy:y.size<1099511627776):PC E 76 [.agg x.view,.agg y.view] (.agg (Ty.mk 3 [x,y]).view):=by
 have h1:=x8 _ x (Nat.le_refl _) hx
 have h2:=x8 _ y (Nat.le_refl _) hy
 refine M.F Tryz.func76 ?_
 repeat'(first|refine M.gw ?_|refine M.c2 (h1) ?_|refine M.c2 (h2) ?_|fail)
 simp[zi,V.wk,V.wks,za,Ty.view,Tm.view]
theorem Zm6(x y:Ty)(hx:x.size<1099511627776)(hy:y.size<1099511627776):PC E 77 [.agg x.view,.agg y.view] (.agg (Ty.mk 4 [x,y]).view):=by
 have h1:=x8 _ x (Nat.le_refl _) hx
 have h2:=x8 _ y (Nat.le_refl _) hy
 refine M.F Tryz.func77 ?_
 repeat'(first|refine M.gw ?_|refine M.c2 (h1) ?_|refine M.c2 (h2) ?_|fail)
 simp[zi,V.wk,V.wks,za,Ty.view,Tm.view]
theorem Zie(t:Ty):PC E 174 [.agg t.view] (.bool t.isNo):=by
 refine M.F Tryz.func174 ?_
 repeat'(first|refine M.gw ?_|((fail_if_success refine AX.wt U ?_);refine AX.gs U U (fun _=>trivial) (fun h=> ?_) (fun h=> ?_))|fail)
 all_goals simp_all[zi,V.wk,V.wks,za,Ty.isNo]
 rw[Bool.eq_iff_iff];simp
theorem Zyb(k:Int):PC E 172 [.i k] (.bool (xu k)):=by
 refine M.F Tryz.func172 ?_
 repeat'(first|refine M.gw ?_|((fail_if_success refine AX.wt U ?_);refine AX.gs U U (fun _=>trivial) (fun h=> ?_) (fun h=> ?_))|fail)
 all_goals simp_all[zi,V.wk,V.wks,za,xu]
theorem Zg9(t:Ty)(ht:t.size<1099511627776):PC E 173 [.agg t.view] (.tup [.i t.num,.i t.err]):=by
 have h1:=Zmm _ t (Nat.le_refl _) ht
 refine M.F Tryz.func173 ?_
 repeat'(first|refine M.gw ?_|refine M.c2 (h1) ?_|((with_reducible refine D.sblk ?_);refine K.sq (AW.block ?_))|refine AW.condS U (fun h=> ?_) (fun h=> ?_)|fail)
 all_goals simp_all[zi,V.wk,V.wks,za,Ty.num,Ty.err,Ty.nodes]
 all_goals(first|omega|(split<;>first|omega|simp_all))
theorem Yar(k:Int):PC E 171 [.i k] (.tup [.i ((arK k).getD 0),.bool (arK k).isSome]):=by
 refine M.F Tryz.func171 ?_
 repeat'(first|refine M.gw ?_|((fail_if_success refine AX.wt U ?_);refine AX.gs U U (fun _=>trivial) (fun h=> ?_) (fun h=> ?_))|refine AW.condS U (fun h=> ?_) (fun h=> ?_)|fail)
 ·have:arK k=none:=by simp at h;simp only[arK];(repeat' rw[if_neg (by omega)])
  simp[this,zi,V.wk,V.wks,za]
 ·have:arK k=none:=by simp at h;simp only[arK];(repeat' rw[if_neg (by omega)])
  simp[this,zi,V.wk,V.wks,za]
 ·rename_i h0
  simp at h h0
  have:k=1∨k=2∨k=3∨k=4∨k=5∨k=6∨k=7∨k=8∨k=9∨k=10∨k=11∨k=12∨k=13:=by omega
  rcases this with rfl|rfl|rfl|rfl|rfl|rfl|rfl|rfl|rfl|rfl|rfl|rfl|rfl
  ·refine L.ixa 1 rfl rfl rfl rfl rfl ?_ ?_ rfl ?_
   ·decide
   ·decide
   repeat'(first|refine M.gw ?_|fail)
   rfl
  ·refine L.ixa 2 rfl rfl rfl rfl rfl ?_ ?_ rfl ?_
   ·decide
   ·decide
   repeat'(first|refine M.gw ?_|fail)
   rfl
  ·refine L.ixa 3 rfl rfl rfl rfl rfl ?_ ?_ rfl ?_
   ·decide
   ·decide
   repeat'(first|refine M.gw ?_|fail)
   rfl
  ·refine L.ixa 4 rfl rfl rfl rfl rfl ?_ ?_ rfl ?_
   ·decide
   ·decide
   repeat'(first|refine M.gw ?_|fail)
   rfl
  ·refine L.ixa 5 rfl rfl rfl rfl rfl ?_ ?_ rfl ?_
   ·decide
   ·decide
   repeat'(first|refine M.gw ?_|fail)
   rfl
  ·refine L.ixa 6 rfl rfl rfl rfl rfl ?_ ?_ rfl ?_
   ·decide
   ·decide
   repeat'(first|refine M.gw ?_|fail)
   rfl
  ·refine L.ixa 7 rfl rfl rfl rfl rfl ?_ ?_ rfl ?_
   ·decide
   ·decide
   repeat'(first|refine M.gw ?_|fail)
   rfl
  ·refine L.ixa 8 rfl rfl rfl rfl rfl ?_ ?_ rfl ?_
   ·decide
   ·decide
   repeat'(first|refine M.gw ?_|fail)
   rfl
  ·refine L.ixa 9 rfl rfl rfl rfl rfl ?_ ?_ rfl ?_
   ·decide
   ·decide
   repeat'(first|refine M.gw ?_|fail)
   rfl
  ·refine L.ixa 10 rfl rfl rfl rfl rfl ?_ ?_ rfl ?_
   ·decide
   ·decide
   repeat'(first|refine M.gw ?_|fail)
   rfl
  ·refine L.ixa 11 rfl rfl rfl rfl rfl ?_ ?_ rfl ?_
   ·decide
   ·decide
   repeat'(first|refine M.gw ?_|fail)
   rfl
  ·refine L.ixa 12 rfl rfl rfl rfl rfl ?_ ?_ rfl ?_
   ·decide
   ·decide
   repeat'(first|refine M.gw ?_|fail)
   rfl
  ·refine L.ixa 13 rfl rfl rfl rfl rfl ?_ ?_ rfl ?_
   ·decide
   ·decide
   repeat'(first|refine M.gw ?_|fail)
   rfl
theorem uh:∀(b:Nat) (t:Tm),t.full≤b→b<1099511627776→PC E 110 [.agg t.view] (.agg t.view):=by
 intro b
 induction b with
 |zero=>intro t h;have:=t.full_pos;omega
 |succ b ih=>
 intro t hsz hb
 have hsz':=Tm.full_eq t
 have hlen:=zc Tm.full Tm.full_pos t.args
 have hty:=x8 _ t.ty (Nat.le_refl _) (by omega)
 refine M.F Tryz.func110 ?_
 repeat'(first|refine M.gw ?_|fail)
 refine AW.range t.args.length (fun m=>True)
  (fun m=>([(1,.ptr 0 0),(2,.ptr 1 0),(3,.slice (.own 2) (.t .tm (t.args.take m))),(7,.s .tm t.args),(8,.i t.args.length),(9,.i m)],⟨3,[(0,.var t.view),(1,.var [.i 0,.i 0,.i 0,.slice .nil (.t .ty []),.slice .nil (.t .tm [])]),(2,.row)]⟩))
  (by omega) (fun m=>rfl) (fun m=>rfl) rfl trivial (M.W [some 0,some 1,none]) ?_ ?_
 ·intro m hm hP
  have hs2:=zb Tm.full (List.getElem_mem hm)
  repeat'(first|refine M.gw ?_|refine M.c2 (ih _ ?_ ?_) ?_|((with_reducible show @LE.le Nat _ _ _);omega)|((with_reducible show @LT.lt Nat _ _ _);omega)|fail)
  exact⟨rfl,trivial,(M.W [some 0,some 1,some 4] (hf:=(by(repeat'(first|exact trivial|refine And.intro ?_ ?_|refine⟨_,U,_,U,?_⟩|exact VLe.refl _|exact VLe.of_eq (by simp[Sto.upd,List.take_append_getElem])));done)))⟩
 ·intro hP
  repeat'(first|refine M.gw ?_|refine M.c2 (hty) ?_|fail)
  simp[zi,V.wk,V.wks,za,Ty.view,Tm.view]
theorem n_c(k:Int)(l:List Tm)(hl:(l.map Tm.full).sum<1099511627776):PC E 68 [.i k,.s .tm l] (.agg (Tm.mk k 0 (.mk 0 []) l).view):=by
 have hlen:=zc Tm.full Tm.full_pos l
 refine M.F Tryz.func68 ?_
 repeat'(first|refine M.gw ?_|fail)
 refine AW.range l.length (fun m=>True)
  (fun m=>([(0,.i k),(4,.ptr 0 0),(5,.slice (.own 1) (.t .tm (l.take m))),(8,.s .tm l),(9,.i l.length),(10,.i m)],⟨2,[(0,.var [.i 0,.i 0,.i 0,.slice .nil (.t .ty []),.slice .nil (.t .tm [])]),(1,.row)]⟩))
  (by omega) (fun m=>rfl) (fun m=>rfl) rfl trivial (M.W [some 0,none]) ?_ ?_
 ·intro m hm hP
  have hs2:=zb Tm.full (List.getElem_mem hm)
  repeat'(first|refine M.gw ?_|refine M.c2 (uh _ _ (Nat.le_refl _) ?_) ?_|((with_reducible show @LT.lt Nat _ _ _);omega)|fail)
  exact⟨rfl,trivial,(M.W [some 0,some 3] (hf:=(by(repeat'(first|exact trivial|refine And.intro ?_ ?_|refine⟨_,U,_,U,?_⟩|exact VLe.refl _|exact VLe.of_eq (by simp[Sto.upd,List.take_append_getElem])));done)))⟩
 ·intro hP
  repeat'(first|refine M.gw ?_|fail)
  simp[zi,V.wk,V.wks,za,Ty.view,Tm.view]
theorem t_c(k:Int)(s:Ty)(l:List Tm)(hl:(l.map Tm.full).sum<1099511627776)(hs:s.size<1099511627776):PC E 69 [.i k,.agg s.view,.s .tm l] (.agg (Tm.mk k 0 s l).view):=by
 have h1:=n_c k l hl
 have h2:=x8 _ s (Nat.le_refl _) hs
 refine M.F Tryz.func69 ?_
 repeat'(first|refine M.gw ?_|refine M.c2 (h1) ?_|refine M.c2 (h2) ?_|fail)
 simp[zi,V.wk,V.wks,za,Ty.view,Tm.view]
theorem Ty.ok_err(t:Ty):t.ok=(t.err==0):=by
 simp only[Ty.ok,Ty.err]
 cases t.shape
 ·simp
 ·by_cases h:t.size≤64
  ·have:¬t.size>64:=by omega
   simp[h,this]
  ·have:t.size>64:=by omega
   simp[h,this]
theorem Tm.head_eq(t:Tm):t.head=(!(!(arK t.kind).isSome)&& !((t.args.length:Int) !=(((arK t.kind).getD 0:Nat):Int))&& !decide (t.index<0)&&(!(t.index !=0)|| !(t.kind !=1))&&(bif xu t.kind then !(t.ty.err !=0) else !(!t.ty.isNo))):=by
 simp only[Tm.head,Ty.ok_err]
 cases hk:arK t.kind with
 |none=>simp
 |some n=>
  have h1:(t.args.length==n)= !((t.args.length:Int) !=((n:Nat):Int)):=by rw[Bool.eq_iff_iff];simp;omega
  have h2:decide (0≤t.index)= !decide (t.index<0):=by rw[Bool.eq_iff_iff];simp
  simp[h1,h2,bne]
theorem Zhb:∀(b:Nat) (t:Tm),t.full≤b→b<1099511627776→PC E 121 [.agg t.view] (Zgb t):=by
 intro b
 induction b with
 |zero=>intro t h;have:=t.full_pos;omega
 |succ b ih=>
 intro t hsz hb
 have hsz':=Tm.full_eq t
 have hszz:=Tm.size_eq t
 have hle:=Tm.size_le_full t
 have hlen:=zc Tm.full Tm.full_pos t.args
 have hsh:=Tm.shape_eq t
 have h1:=Yar t.kind
 have h2:=Zyb t.kind
 have h3:=Zie t.ty
 have h4:=Zg9 t.ty (by omega)
 have bad:t.shape=false→(V.tup [.i 0,.bool false])=Zgb t:=fun h=>by simp[Zgb,Tm.nodes,h]
 refine M.F Tryz.func121 ?_
 repeat'(first|refine M.gw ?_|refine M.c2 (h1) ?_|refine M.c2 (h2) ?_|refine M.c2 (h3) ?_|refine M.c2 (h4) ?_|((fail_if_success refine AX.wt U ?_);refine AX.gs U U (fun _=>trivial) (fun h=> ?_) (fun h=> ?_))|refine AW.condS U (fun h=> ?_) (fun h=> ?_)|fail)
 all_goals first
  |(have hd:t.head=false:=by rw[t.head_eq];simp_all
    have:t.shape=false:=by rw[hsh,hd,Bool.false_and]
    simp[Tm.nodes,this,zi,za,V.wk,V.wks];done)
  |(have hd:t.head=true:=by rw[t.head_eq];simp_all
    refine AW.range t.args.length (fun m=>∀j (hj:j<t.args.length),j<m→(t.args[j]).shape=true)
     (fun m=>([(1,.ptr 0 0),(8,.i (1+((t.args.take m).map Tm.size).sum)),(59,.s .tm t.args),(60,.i t.args.length),(61,.i m)],⟨1,[(0,.var t.view)]⟩))
     (by omega) (fun m=>rfl) (fun m=>rfl) rfl (by intro j hj h;omega) (M.W [some 0]) ?_ ?_
    ·intro m hm hP
     have hs1:=yk Tm.size t.args m hm
     have hs2:=zb Tm.full (List.getElem_mem hm)
     have hs3:=zk Tm.size t.args (m+1)
     have hs4:=Tm.nodes_le t.args[m]
     have hs5:=Tm.size_le_full t.args[m]
     repeat'(first|refine M.gw ?_|refine M.c2 (ih _ ?_ ?_) ?_|refine AW.condS U (fun h=> ?_) (fun h=> ?_)|((with_reducible show @LE.le Nat _ _ _);omega)|((with_reducible show @LT.lt Nat _ _ _);omega)|fail)
     ·have h1:(t.args[m]).shape=false:=by simpa using h
      have:t.shape=false:=by rw[hsh,wo Tm.shape hm h1,Bool.and_false]
      simp[Tm.nodes,this,zi,za,V.wk,V.wks]
     ·have hh:(t.args[m]).shape=true:=by simpa using h
      refine⟨rfl,yb (p:=fun t=>Tm.shape t=true) hm hP hh,?_⟩
      have e:(1+((((t.args.take (m+1)).map Tm.size).sum:Nat):Int))=1+(((t.args.take m).map Tm.size).sum:Nat)+t.args[m].nodes:=by simp only[Tm.nodes,hh,hs1];simp;omega
      simp only[e]
      exact(M.W [some 0])
    ·intro hP
     have:t.shape=true:=by simp only[hsh,hd,Zac Tm.shape t.args fun j hj=>hP j hj hj];simp
     repeat'(first|refine M.gw ?_|fail)
     simp[Tm.nodes,this,zi,za,hszz,V.wk,V.wks])
theorem Zd0(t:Tm)(ht:t.full<1099511627776):PC E 60 [.agg t.view] (.tup [.i t.num,.i t.err]):=by
 have h1:=Zhb _ t (Nat.le_refl _) ht
 refine M.F Tryz.func60 ?_
 repeat'(first|refine M.gw ?_|refine M.c2 (h1) ?_|((with_reducible refine D.sblk ?_);refine K.sq (AW.block ?_))|refine AW.condS U (fun h=> ?_) (fun h=> ?_)|fail)
 all_goals simp_all[zi,V.wk,V.wks,za,Tm.num,Tm.err,Tm.nodes]
 all_goals(first|omega|(split<;>first|omega|simp_all))
theorem Yc2(t:Tm)(ht:t.full<1099511627776):PC E 55 [.agg t.view] (.tup [.i t.num,.i t.err]):=by
 have h1:=Zd0 t ht
 refine M.F Tryz.func55 ?_
 repeat'(first|refine M.gw ?_|refine M.c2 (h1) ?_|fail)
 simp[zi,V.wk,V.wks,za,Ty.view,Tm.view]
theorem xj:∀(n:Nat) (x y:Ty),x.size≤n→n<1099511627776→PC E 71 [.agg x.view,.agg y.view] (.bool (decide (x=y))):=by
 intro n
 induction n with
 |zero=>intro x y h;have:=x.size_pos;omega
 |succ n ih=>
 intro x y hsz hb
 have hsz':=Ty.size_eq x
 have hlen:=zc Ty.size Ty.size_pos x.args
 have heq:=Ty.eq_iff x y
 refine M.F Tryz.func71 ?_
 repeat'(first|refine M.gw ?_|((fail_if_success refine AX.wt U ?_);refine AX.gs U U (fun _=>trivial) (fun h=> ?_) (fun h=> ?_))|refine AW.condS U (fun h=> ?_) (fun h=> ?_)|fail)
 ·have:¬x=y:=by rw[heq];simp_all
  simp[this,zi,za,V.wk,V.wks]
 ·have:¬x=y:=by rintro rfl;simp at h
  simp[this,zi,za,V.wk,V.wks]
 ·rename_i hk
  simp at h hk
  have hl:x.args.length=y.args.length:=by omega
  refine AW.range x.args.length (fun m=>∀j (hj:j<x.args.length),j<m→x.args[j]=y.args[j]'(by omega))
   (fun m=>([(2,.ptr 0 0),(3,.ptr 1 0),(22,.i x.args.length),(23,.i m)],⟨2,[(0,.var x.view),(1,.var y.view)]⟩))
   (by omega) (fun m=>rfl) (fun m=>rfl) rfl (by intro j hj h;omega) (M.W [some 0,some 1]) ?_ ?_
  ·intro m hm hP
   have hm':m<y.args.length:=by omega
   have hs2:=zb Ty.size (List.getElem_mem hm)
   repeat'(first|refine M.gw ?_|refine M.c2 (ih _ _ ?_ ?_) ?_|refine AW.condS U (fun h=> ?_) (fun h=> ?_)|((with_reducible show @LE.le Nat _ _ _);omega)|((with_reducible show @LT.lt Nat _ _ _);omega)|fail)
   ·have:¬x=y:=by rw[heq];exact fun hc=>Zq6 hm hm' (by simpa using h) hc.2
    simp[this,zi,za,V.wk,V.wks]
   ·exact ⟨rfl,Ybd hl hm hP (by simpa using h),(M.W [some 0,some 1])⟩
  ·intro hP
   have:x=y:=heq.2 ⟨hk,Zuk hl hP⟩
   repeat'(first|refine M.gw ?_|fail)
   simp[this,zi,za,V.wk,V.wks]
theorem Zoz:∀(n:Nat) (x y:Tm),x.full≤n→n<1099511627776→PC E 148 [.agg x.view,.agg y.view] (.bool (decide (x=y))):=by
 intro n
 induction n with
 |zero=>intro x y h;have:=x.full_pos;omega
 |succ n ih=>
 intro x y hsz hb
 have hsz':=Tm.full_eq x
 have hlen:=zc Tm.full Tm.full_pos x.args
 have heq:=Tm.eq_iff x y
 have hty:=xj _ x.ty y.ty (Nat.le_refl _) (by omega)
 refine M.F Tryz.func148 ?_
 repeat'(first|refine M.gw ?_|refine M.c2 (hty) ?_|((fail_if_success refine AX.wt U ?_);refine AX.gs U U (fun _=>trivial) (fun h=> ?_) (fun h=> ?_))|refine AW.condS U (fun h=> ?_) (fun h=> ?_)|fail)
 ·have:¬x=y:=by rw[heq];simp_all
  simp[this,zi,za,V.wk,V.wks]
 ·have:¬x=y:=by rw[heq];simp_all
  simp[this,zi,za,V.wk,V.wks]
 ·have:¬x=y:=by rw[heq];simp_all
  simp[this,zi,za,V.wk,V.wks]
 ·have:¬x=y:=by rintro rfl;simp at h
  simp[this,zi,za,V.wk,V.wks]
 ·rename_i h1 h2 h3
  simp at h h1 h2 h3
  have hl:x.args.length=y.args.length:=by omega
  refine AW.range x.args.length (fun m=>∀j (hj:j<x.args.length),j<m→x.args[j]=y.args[j]'(by omega))
   (fun m=>([(2,.ptr 0 0),(3,.ptr 1 0),(37,.i x.args.length),(38,.i m)],⟨2,[(0,.var x.view),(1,.var y.view)]⟩))
   (by omega) (fun m=>rfl) (fun m=>rfl) rfl (by intro j hj h;omega) (M.W [some 0,some 1]) ?_ ?_
  ·intro m hm hP
   have hm':m<y.args.length:=by omega
   have hs2:=zb Tm.full (List.getElem_mem hm)
   repeat'(first|refine M.gw ?_|refine M.c2 (ih _ _ ?_ ?_) ?_|refine AW.condS U (fun h=> ?_) (fun h=> ?_)|((with_reducible show @LE.le Nat _ _ _);omega)|((with_reducible show @LT.lt Nat _ _ _);omega)|fail)
   ·have:¬x=y:=by rw[heq];exact fun hc=>Zq6 hm hm' (by simpa using h) hc.2.2.2
    simp[this,zi,za,V.wk,V.wks]
   ·exact ⟨rfl,Ybd hl hm hP (by simpa using h),(M.W [some 0,some 1])⟩
  ·intro hP
   have:x=y:=heq.2 ⟨h1,h2,h3,Zuk hl hP⟩
   repeat'(first|refine M.gw ?_|fail)
   simp[this,zi,za,V.wk,V.wks]
def Zby(b:Bool)(l:List (Int×Int)):Bool:=b&&l.all fun p=>decide (p.1≤536870912)
theorem Zj9(b:Bool)(l l':List (Int×Int)):Zby (Zby b l) l'=Zby b (l++l'):=by simp[Zby,Bool.and_assoc]
theorem Zkm(b:Bool):Zby b []=b:=by simp[Zby]
theorem Ybb(b:Bool)(i bl:Int):AC E 118 [.i i,.i bl,.ptr 0 0] ⟨1,[(0,.var [.bool b])]⟩ (.tup []) ⟨1,[(0,.var [.bool (Zby b [(i,bl)])])]⟩:=by
 refine M.F Tryz.func118 ?_
 repeat'(first|refine M.gw ?_|((fail_if_success refine AX.wt U ?_);refine AX.gs U U (fun _=>trivial) (fun h=> ?_) (fun h=> ?_))|fail)
 ·(exact M.n2 [some 0] (h6:=(by(repeat'(first|exact trivial|refine And.intro ?_ ?_|refine⟨_,U,_,U,_,U,?_⟩|exact VLe.of_eq (by simp[Sto.upd,Zby,h])));done)) (h8:=(by simp[zi,V.wk,V.wks,za,Ty.view,Tm.view,Zby,h])))
 ·(exact M.n2 [some 0] (h6:=(by(repeat'(first|exact trivial|refine And.intro ?_ ?_|refine⟨_,U,_,U,_,U,?_⟩|exact VLe.of_eq (by simp[Sto.upd,Zby,h])));done)) (h8:=(by simp[zi,V.wk,V.wks,za,Ty.view,Tm.view,Zby,h])))
theorem Ztf:∀(n:Nat) (t:Tm) (b:Bool) (bl:Int),t.full≤n→n<1099511627776→0≤bl→bl+n<1099511627776→AC E 170 [.agg t.view,.i bl,.ptr 0 0,.ptr 1 0] ⟨3,[(0,.var [.fn (.func 118) [] [.ptr 2 0]]),(1,.var [.fn (.func 170) [] [.ptr 0 0,.ptr 1 0]]),(2,.var [.bool b])]⟩ (.tup [])
 ⟨3,[(0,.var [.fn (.func 118) [] [.ptr 2 0]]),(1,.var [.fn (.func 170) [] [.ptr 0 0,.ptr 1 0]]),(2,.var [.bool (Zby b (t.vars bl))])]⟩:=by
 intro n
 induction n with
 |zero=>intro t b bl h;have:=t.full_pos;omega
 |succ n ih=>
 intro t b bl hsz hb hbl hbn
 have hsz':=Tm.full_eq t
 have hlen:=zc Tm.full Tm.full_pos t.args
 have hv:=Tm.vars_eq bl t
 refine M.F Tryz.func170 ?_
 repeat'(first|refine M.gw ?_|refine M.cv (Ybb _ _ _) [2] 0 ?_|refine AW.condS U (fun h=> ?_) (fun h=> ?_)|fail)
 all_goals
  have hup:up t.kind bl≤bl+1:=by simp only[up];split<;>omega
  have hup0:0≤up t.kind bl:=by simp only[up];split<;>omega
  refine AW.range t.args.length (fun m=>True)
   (fun m=>([(1,.i (up t.kind bl)),(3,.ptr 1 0),(22,.s .tm t.args),(23,.i t.args.length),(24,.i m)],⟨4,[(0,.var [.fn (.func 118) [] [.ptr 2 0]]),(1,.var [.fn (.func 170) [] [.ptr 0 0,.ptr 1 0]]),(2,.var [.bool (Zby b ((if t.kind=1 then [(t.index,bl)] else [])++(t.args.take m).flatMap (Tm.vars (up t.kind bl))))]),(3,.var t.view)]⟩))
   (by omega) (fun m=>rfl) (fun m=>rfl) rfl trivial ?_ ?_ ?_
  ·simp_all only[beq_iff_eq,beq_eq_false_iff_ne,ne_eq]
   exact(M.W [some 0,some 1,some 2,some 3] (hf:=(by(repeat'(first|exact trivial|refine And.intro ?_ ?_|refine⟨_,U,_,U,?_⟩|exact VLe.refl _|exact VLe.of_eq (by simp[Sto.upd,up, *,Zkm])));done)) (he:=(by(repeat'(first|exact trivial|refine And.intro ?_ ?_|refine⟨_,U,_,U,_,U,?_⟩|exact VLe.refl _|exact VLe.of_eq (by simp[Sto.upd,up, *,Zkm])));done)))
  ·intro m hm hP
   have hs2:=zb Tm.full (List.getElem_mem hm)
   have hc:=ih t.args[m] (Zby b ((if t.kind=1 then [(t.index,bl)] else [])++(t.args.take m).flatMap (Tm.vars (up t.kind bl)))) (up t.kind bl) (by omega) (by omega) hup0 (by omega)
   repeat'(first|refine M.gw ?_|refine M.cv (hc) [0,1,2] 0 ?_|fail)
   refine⟨rfl,trivial,?_⟩
   exact(M.W [some 0,some 1,some 2,some 3] (he:=(by(repeat'(first|exact trivial|refine And.intro ?_ ?_|refine⟨_,U,_,U,_,U,?_⟩|exact VLe.refl _|exact VLe.of_eq (by simp[Sto.upd,Zj9,Zav _ _ _ hm])));done)))
  ·intro hP
   skip
   (exact M.n2 [some 0,some 1,some 2] (h6:=(by(repeat'(first|exact trivial|refine And.intro ?_ ?_|refine⟨_,U,_,U,_,U,?_⟩|exact VLe.refl _|exact VLe.of_eq (by simp[Sto.upd,hv])));done)) (h8:=(by simp[zi,V.wk,V.wks,za,Ty.view,Tm.view,hv])))
theorem Zv7(t:Tm)(b:Bool)(ht:t.full<1099511627776):AC E 117 [.agg t.view,.fn (.func 118) [] [.ptr 0 0]] ⟨1,[(0,.var [.bool b])]⟩ (.tup []) ⟨1,[(0,.var [.bool (Zby b (t.vars 0))])]⟩:=by
 have hc:=Ztf _ t b 0 (Nat.le_refl _) (by omega) (by omega) (by omega)
 refine M.F Tryz.func117 ?_
 repeat'(first|refine M.gw ?_|refine M.cv (hc) [2,3,0] 0 ?_|fail)
 (exact M.n2 [some 0] (h8:=(by simp[zi,V.wk,V.wks,za,Ty.view,Tm.view,Zby])))
theorem Zsn(t:Tm)(ht:t.full<1099511627776):PC E 57 [.agg t.view] (.bool t.near):=by
 have hc:=Zv7 t true ht
 refine M.F Tryz.func57 ?_
 repeat'(first|refine M.gw ?_|refine M.cb (hc) [1] 0 ?_|fail)
 simp[zi,V.wk,V.wks,Zby,Tm.near]
theorem Zzy(at_ c i bl:Int)(hc:0≤c∧c<1099511627776)(hi:0≤i∧i<9223372036854775808)(hb:0≤bl∧bl<1099511627776):AC E 122 [.i i,.i bl,.ptr 0 0,.ptr 1 0] ⟨2,[(0,.var [.i at_]),(1,.var [.i c])]⟩ (.tup []) ⟨2,[(0,.var [.i at_]),(1,.var [.i (c+cnt at_ [(i,bl)])])]⟩:=by
 refine M.F Tryz.func122 ?_
 repeat'(first|refine M.gw ?_|refine AW.condS U (fun h=> ?_) (fun h=> ?_)|fail)
 ·have:i-bl=at_:=by simpa using h
  (exact M.n2 [some 0,some 1] (h6:=(by(repeat'(first|exact trivial|refine And.intro ?_ ?_|refine⟨_,U,_,U,_,U,?_⟩|exact VLe.refl _|exact VLe.of_eq (by simp[Sto.upd,Zbs,this])));done)) (h8:=(by simp[zi,V.wk,V.wks,za,Ty.view,Tm.view,Zbs,this])))
 ·have:¬i-bl=at_:=by simpa using h
  (exact M.n2 [some 0,some 1] (h6:=(by(repeat'(first|exact trivial|refine And.intro ?_ ?_|refine⟨_,U,_,U,_,U,?_⟩|exact VLe.refl _|exact VLe.of_eq (by simp[Sto.upd,Zbs,this])));done)) (h8:=(by simp[zi,V.wk,V.wks,za,Ty.view,Tm.view,Zbs,this])))
theorem Zpz(at_:Int):∀(n:Nat) (t:Tm) (c:Int) (bl:Int),t.full≤n→n<1099511627776→0≤bl→bl+n<1099511627776→0≤c→c+t.full<1099511627776→(∀p∈t.vars bl,0≤p.1∧p.1<9223372036854775808)→AC E 170 [.agg t.view,.i bl,.ptr 0 0,.ptr 1 0] ⟨4,[(0,.var [.fn (.func 122) [] [.ptr 2 0,.ptr 3 0]]),(1,.var [.fn (.func 170) [] [.ptr 0 0,.ptr 1 0]]),(2,.var [.i at_]),(3,.var [.i c])]⟩ (.tup [])
 ⟨4,[(0,.var [.fn (.func 122) [] [.ptr 2 0,.ptr 3 0]]),(1,.var [.fn (.func 170) [] [.ptr 0 0,.ptr 1 0]]),(2,.var [.i at_]),(3,.var [.i (c+cnt at_ (t.vars bl))])]⟩:=by
 intro n
 induction n with
 |zero=>intro t b bl h;have:=t.full_pos;omega
 |succ n ih=>
 intro t c bl hsz hb hbl hbn hc0 hcn hix
 have hsz':=Tm.full_eq t
 have hlen:=zc Tm.full Tm.full_pos t.args
 have hv:=Tm.vars_eq bl t
 have hi:t.kind=1→0≤t.index∧t.index<9223372036854775808:=fun h=>by simpa using hix (t.index,bl) (by rw[hv];simp[h])
 have hcb:t.kind=1→_:=fun h=>Zzy at_ c t.index bl (by omega) (hi h) (by omega)
 refine M.F Tryz.func170 ?_
 repeat'(first|refine M.gw ?_|refine M.cv (hcb (by simpa using h)) [2,3] 0 ?_|refine AW.condS U (fun h=> ?_) (fun h=> ?_)|fail)
 all_goals
  have hup:up t.kind bl≤bl+1:=by simp only[up];split<;>omega
  have hup0:0≤up t.kind bl:=by simp only[up];split<;>omega
  refine AW.range t.args.length (fun m=>True)
   (fun m=>([(1,.i (up t.kind bl)),(3,.ptr 1 0),(22,.s .tm t.args),(23,.i t.args.length),(24,.i m)],⟨5,[(0,.var [.fn (.func 122) [] [.ptr 2 0,.ptr 3 0]]),(1,.var [.fn (.func 170) [] [.ptr 0 0,.ptr 1 0]]),(2,.var [.i at_]),(3,.var [.i (c+cnt at_ ((if t.kind=1 then [(t.index,bl)] else [])++(t.args.take m).flatMap (Tm.vars (up t.kind bl))))]),(4,.var t.view)]⟩))
   (by omega) (fun m=>rfl) (fun m=>rfl) rfl trivial ?_ ?_ ?_
  ·simp_all only[beq_iff_eq,beq_eq_false_iff_ne,ne_eq]
   exact(M.W [some 0,some 1,some 2,some 3,some 4] (hf:=(by(repeat'(first|exact trivial|refine And.intro ?_ ?_|refine⟨_,U,_,U,?_⟩|exact VLe.refl _|exact VLe.of_eq (by simp[Sto.upd,up, *,vm,cnt])));done)) (he:=(by(repeat'(first|exact trivial|refine And.intro ?_ ?_|refine⟨_,U,_,U,_,U,?_⟩|exact VLe.refl _|exact VLe.of_eq (by simp[Sto.upd,up, *,vm,cnt])));done)))
  ·intro m hm hP
   have hs2:=zb Tm.full (List.getElem_mem hm)
   have hs3:cnt at_ ((if t.kind=1 then [(t.index,bl)] else [])++(t.args.take m).flatMap (Tm.vars (up t.kind bl)))+t.args[m].full≤1+(t.args.map Tm.full).sum:=by
    have h1:=Zn1 at_ ((if t.kind=1 then [(t.index,bl)] else [])++(t.args.take m).flatMap (Tm.vars (up t.kind bl)))
    have h2:=Zt3 (t.args.take m) (Tm.vars (up t.kind bl)) fun x _=>x.vars_len _
    have h3:((t.args.take m).map Tm.size).sum≤((t.args.take m).map Tm.full).sum:=yx _ (fun x _=>x.size_le_full)
    have h4:=yk Tm.full t.args m hm
    have h5:=zk Tm.full t.args (m+1)
    have h6:(if t.kind=1 then [(t.index,bl)] else []).length≤1:=by split<;>simp
    simp only[List.length_append] at h1
    omega
   have hix':∀p∈(t.args[m]).vars (up t.kind bl),0≤p.1∧p.1<9223372036854775808:=fun p hp=>hix p (by rw[hv];exact List.mem_append_right _ (List.mem_flatMap.2 ⟨_,List.getElem_mem hm,hp⟩))
   have hc:=ih t.args[m] (c+cnt at_ ((if t.kind=1 then [(t.index,bl)] else [])++(t.args.take m).flatMap (Tm.vars (up t.kind bl)))) (up t.kind bl) (by omega) (by omega) hup0 (by omega) (by omega) (by omega) hix'
   repeat'(first|refine M.gw ?_|refine M.cv (hc) [0,1,2,3] 0 ?_|fail)
   refine⟨rfl,trivial,?_⟩
   exact(M.W [some 0,some 1,some 2,some 3,some 4] (he:=(by(repeat'(first|exact trivial|refine And.intro ?_ ?_|refine⟨_,U,_,U,_,U,?_⟩|exact VLe.refl _|exact VLe.of_eq (by simp[Sto.upd,vm,Zav _ _ _ hm,Int.add_assoc])));done)))
  ·intro hP
   skip
   (exact M.n2 [some 0,some 1,some 2,some 3] (h6:=(by(repeat'(first|exact trivial|refine And.intro ?_ ?_|refine⟨_,U,_,U,_,U,?_⟩|exact VLe.refl _|exact VLe.of_eq (by simp[Sto.upd,hv])));done)) (h8:=(by simp[zi,V.wk,V.wks,za,Ty.view,Tm.view,hv])))
theorem Zsw(t:Tm)(at_:Int)(ht:t.full<549755813888)(hix:∀p∈t.vars 0,0≤p.1∧p.1<9223372036854775808):AC E 117 [.agg t.view,.fn (.func 122) [] [.ptr 0 0,.ptr 1 0]] ⟨2,[(0,.var [.i at_]),(1,.var [.i 0])]⟩ (.tup []) ⟨2,[(0,.var [.i at_]),(1,.var [.i (cnt at_ (t.vars 0))])]⟩:=by
 have hc:=Zpz at_ _ t 0 0 (Nat.le_refl _) (by omega) (by omega) (by omega) (by omega) (by omega) hix
 refine M.F Tryz.func117 ?_
 repeat'(first|refine M.gw ?_|refine M.cv (hc) [3,4,0,1] 0 ?_|fail)
 (exact M.n2 [some 0,some 1] (h6:=(by(repeat'(first|exact trivial|refine And.intro ?_ ?_|refine⟨_,U,_,U,_,U,?_⟩|exact VLe.refl _|exact VLe.of_eq (by simp[Sto.upd,cnt])));done)) (h8:=(by simp[zi,V.wk,V.wks,za,Ty.view,Tm.view,cnt])))
theorem Zym(t:Tm)(at_:Int)(ht:t.full<549755813888)(hix:∀p∈t.vars 0,0≤p.1∧p.1<9223372036854775808):PC E 62 [.agg t.view,.i at_] (.i (cnt at_ (t.vars 0))):=by
 have hc:=Zsw t at_ ht hix
 refine M.F Tryz.func62 ?_
 repeat'(first|refine M.gw ?_|refine M.cb (hc) [1,2] 0 ?_|fail)
 simp[zi,V.wk,V.wks]
theorem Zte(t:Tm)(at_:Int)(ht:t.full<549755813888)(hix:∀p∈t.vars 0,0≤p.1∧p.1<1099511627776):PC E 62 [.agg t.view,.i at_] (.i (cnt at_ (t.vars 0))):=
 Zym t at_ ht fun p hp=>by have:=hix p hp;omega
theorem Ybk(fr by_ i bl:Int)(hi:0≤i∧i<549755813888)(hb:0≤bl∧bl<1099511627776)(hy: -1099511627776≤by_∧by_<1099511627776):AC E 188 [.i i,.i bl,.ptr 0 0,.ptr 1 0] ⟨2,[(0,.var [.i fr]),(1,.var [.i by_])]⟩ (.agg (zq fr by_ i bl).view) ⟨2,[(0,.var [.i fr]),(1,.var [.i by_])]⟩:=by
 have hv:=Zxj
 refine M.F Tryz.func188 ?_
 repeat'(first|refine M.gw ?_|refine M.c2 (hv _) ?_|refine AW.condS U (fun h=> ?_) (fun h=> ?_)|fail)
 ·have h':fr≤i-bl:=by simpa using h
  (exact M.n2 [some 0,some 1] (h8:=(by simp[zi,V.wk,V.wks,za,Ty.view,Tm.view,zq,h'])))
 ·have h':¬fr≤i-bl:=by simpa using h
  (exact M.n2 [some 0,some 1] (h8:=(by simp[zi,V.wk,V.wks,za,Ty.view,Tm.view,zq,h'])))
theorem Zzk(fr by_:Int)(hy: -1099511627776≤by_∧by_<1099511627776):∀(n:Nat) (t:Tm) (bl:Int),t.full≤n→n<549755813888→0≤bl→bl+n<549755813888→(∀p∈t.vars bl,0≤p.1∧p.1<549755813888)→AC E 219 [.agg t.view,.i bl,.ptr 0 0,.ptr 1 0] ⟨4,[(0,.var [.fn (.func 188) [] [.ptr 2 0,.ptr 3 0]]),(1,.var [.fn (.func 219) [] [.ptr 0 0,.ptr 1 0]]),(2,.var [.i fr]),(3,.var [.i by_])]⟩ (.agg (t.re (zq fr by_) bl).view) ⟨4,[(0,.var [.fn (.func 188) [] [.ptr 2 0,.ptr 3 0]]),(1,.var [.fn (.func 219) [] [.ptr 0 0,.ptr 1 0]]),(2,.var [.i fr]),(3,.var [.i by_])]⟩:=by
 intro n
 induction n with
 |zero=>intro t bl h;have:=t.full_pos;omega
 |succ n ih=>
 intro t bl hsz hb hbl hbn hix
 have hsz':=Tm.full_eq t
 have hlen:=zc Tm.full Tm.full_pos t.args
 have hv:=Tm.vars_eq bl t
 have hre:=Tm.re_eq (zq fr by_) bl t
 have hi:t.kind=1→0≤t.index∧t.index<549755813888:=fun h=>by simpa using hix (t.index,bl) (by rw[hv];simp[h])
 have hcb:t.kind=1→_:=fun h=>Ybk fr by_ t.index bl (hi h) (by omega) hy
 have hown:=Zjp _ t.ty (Nat.le_refl _) (by omega)
 refine M.F Tryz.func219 ?_
 repeat'(first|refine M.gw ?_|refine M.cv (hcb (by simpa using h)) [2,3] 0 ?_|refine M.c2 (hown) ?_|refine AW.condS U (fun h=> ?_) (fun h=> ?_)|fail)
 ·have hk:t.kind=1:=by simpa using h
  (exact M.n2 [some 0,some 1,some 2,some 3] (h8:=(by simp[zi,V.wk,V.wks,za,Ty.view,Tm.view,hre,hk])))
 all_goals
  rename_i hk1
  have hup:up t.kind bl≤bl+1:=by simp only[up];split<;>omega
  have hup0:0≤up t.kind bl:=by simp only[up];split<;>omega
  have hk1':¬t.kind=1:=by simpa using hk1
  refine AW.range t.args.length (fun m=>True)
   (fun m=>([(1,.i (up t.kind bl)),(3,.ptr 1 0),(6,.ptr 5 0),(7,.ptr 6 0),(32,.s .tm t.args),(33,.i t.args.length),(34,.i m)],⟨8,[(0,.var [.fn (.func 188) [] [.ptr 2 0,.ptr 3 0]]),(1,.var [.fn (.func 219) [] [.ptr 0 0,.ptr 1 0]]),(2,.var [.i fr]),(3,.var [.i by_]),(4,.var t.view),(5,.var [.i 0,.i 0,.i 0,.slice .nil (.t .ty []),.slice .nil (.t .tm [])]),(6,.var [.i t.kind,.i t.index,.i t.ty.kind,.s .ty t.ty.args,.slice (.own 7) (.t .tm ((t.args.take m).map (Tm.re (zq fr by_) (up t.kind bl))))]),(7,.row)]⟩))
   (by omega) (fun m=>rfl) (fun m=>rfl) rfl trivial ?_ ?_ ?_
  ·simp_all only[beq_iff_eq,beq_eq_false_iff_ne,ne_eq]
   exact(M.W [some 0,some 1,some 2,some 3,some 4,some 5,some 6,none] (hf:=(by(repeat'(first|exact trivial|refine And.intro ?_ ?_|refine⟨_,U,_,U,?_⟩|exact VLe.refl _|exact VLe.of_eq (by simp[Sto.upd,up, *])));done)))
  ·intro m hm hP
   have hs2:=zb Tm.full (List.getElem_mem hm)
   have hix':∀p∈(t.args[m]).vars (up t.kind bl),0≤p.1∧p.1<549755813888:=fun p hp=>hix p (by rw[hv];exact List.mem_append_right _ (List.mem_flatMap.2 ⟨_,List.getElem_mem hm,hp⟩))
   have hc:=ih t.args[m] (up t.kind bl) (by omega) (by omega) hup0 (by omega) hix'
   repeat'(first|refine M.gw ?_|refine M.cv (hc) [0,1,2,3] 0 ?_|fail)
   refine⟨rfl,trivial,?_⟩
   exact(M.W [some 0,some 1,some 2,some 3,some 4,some 5,some 6,some 9] (he:=(by(repeat'(first|exact trivial|exact Or.inr ⟨_,U,rfl⟩|refine And.intro ?_ ?_|refine⟨_,U,_,U,_,U,?_⟩|exact VLe.refl _|exact VLe.of_eq (by simp[Sto.upd,yc _ _ _ hm])));done)))
  ·intro hP
   repeat'(first|refine M.gw ?_|fail)
   (exact M.n2 [some 0,some 1,some 2,some 3] (h8:=(by simp[zi,V.wk,V.wks,za,Ty.view,Tm.view,hre,hk1'])))
theorem Ydm(fr by_:Int)(hy: -1099511627776≤by_∧by_<1099511627776)(t:Tm)(ht:t.full<274877906944)(hix:∀p∈t.vars 0,0≤p.1∧p.1<549755813888):AC E 180 [.agg t.view,.fn (.func 188) [] [.ptr 0 0,.ptr 1 0]] ⟨2,[(0,.var [.i fr]),(1,.var [.i by_])]⟩ (.agg (t.re (zq fr by_) 0).view) ⟨2,[(0,.var [.i fr]),(1,.var [.i by_])]⟩:=by
 have hc:=Zzk fr by_ hy _ t 0 (Nat.le_refl _) (by omega) (by omega) (by omega) hix
 refine M.F Tryz.func180 ?_
 repeat'(first|refine M.gw ?_|refine M.cv (hc) [3,5,0,1] 0 ?_|fail)
 (exact M.n2 [some 0,some 1] (h8:=(by simp[zi,V.wk,V.wks,za,Ty.view,Tm.view,hc])))
theorem Ydv(t:Tm)(fr by_:Int)(hy: -1099511627776≤by_∧by_<1099511627776)(ht:t.full<274877906944)(hix:∀p∈t.vars 0,0≤p.1∧p.1<549755813888):PC E 140 [.agg t.view,.i fr,.i by_] (.agg (t.re (zq fr by_) 0).view):=by
 have hc:=Ydm fr by_ hy t ht hix
 refine M.F Tryz.func140 ?_
 repeat'(first|refine M.gw ?_|refine M.cb (hc) [1,2] 0 ?_|fail)
 simp[zi,V.wk,V.wks,za,Ty.view,Tm.view]
theorem Yfd(at_:Int)(s:Tm)(i bl:Int)(hat:0≤at_∧at_<549755813888)(hs:s.full<274877906944)(hsi:∀p∈s.vars 0,0≤p.1∧p.1<549755813888)(hi:0≤i∧i<9223372036854775808)(hb:0≤bl∧bl<549755813888):AC E 181 [.i i,.i bl,.ptr 0 0,.ptr 1 0] ⟨2,[(0,.var [.i at_]),(1,.var s.view)]⟩ (.agg (y5 at_ s i bl).view) ⟨2,[(0,.var [.i at_]),(1,.var s.view)]⟩:=by
 have hv:=Zxj
 have hl:=Ydv s 0 (at_+bl) (by omega) hs hsi
 refine M.F Tryz.func181 ?_
 repeat'(first|refine M.gw ?_|refine M.c2 (hv _) ?_|refine M.c2 (hl) ?_|((with_reducible refine D.blk ?_);refine AW.block ?_)|refine AW.condS U (fun h=> ?_) (fun h=> ?_)|fail)
 ·have h':i-bl=at_:=by simpa using h
  (exact M.n2 [some 0,some 1] (h8:=(by simp[zi,V.wk,V.wks,za,Ty.view,Tm.view,y5,h'])))
 ·rename_i h0
  have h0':¬i-bl=at_:=by simpa using h0
  have h':at_<i-bl:=by simpa using h
  (exact M.n2 [some 0,some 1] (h8:=(by simp[zi,V.wk,V.wks,za,Ty.view,Tm.view,y5,h',h0'])))
 ·rename_i h0
  have h0':¬i-bl=at_:=by simpa using h0
  have h':¬at_<i-bl:=by simpa using h
  (exact M.n2 [some 0,some 1] (h8:=(by simp[zi,V.wk,V.wks,za,Ty.view,Tm.view,y5,h',h0'])))
theorem Ydb(at_:Int)(s:Tm)(hat:0≤at_∧at_<549755813888)(hs:s.full<274877906944)(hsi:∀p∈s.vars 0,0≤p.1∧p.1<549755813888):∀(n:Nat) (t:Tm) (bl:Int),t.full≤n→n<549755813888→0≤bl→bl+n<549755813888→(∀p∈t.vars bl,0≤p.1∧p.1<9223372036854775808)→AC E 219 [.agg t.view,.i bl,.ptr 0 0,.ptr 1 0] ⟨4,[(0,.var [.fn (.func 181) [] [.ptr 2 0,.ptr 3 0]]),(1,.var [.fn (.func 219) [] [.ptr 0 0,.ptr 1 0]]),(2,.var [.i at_]),(3,.var s.view)]⟩ (.agg (t.re (y5 at_ s) bl).view) ⟨4,[(0,.var [.fn (.func 181) [] [.ptr 2 0,.ptr 3 0]]),(1,.var [.fn (.func 219) [] [.ptr 0 0,.ptr 1 0]]),(2,.var [.i at_]),(3,.var s.view)]⟩:=by
 intro n
 induction n with
 |zero=>intro t bl h;have:=t.full_pos;omega
 |succ n ih=>
 intro t bl hsz hb hbl hbn hix
 have hsz':=Tm.full_eq t
 have hlen:=zc Tm.full Tm.full_pos t.args
 have hv:=Tm.vars_eq bl t
 have hre:=Tm.re_eq (y5 at_ s) bl t
 have hi:t.kind=1→0≤t.index∧t.index<9223372036854775808:=fun h=>by simpa using hix (t.index,bl) (by rw[hv];simp[h])
 have hcb:t.kind=1→_:=fun h=>Yfd at_ s t.index bl hat hs hsi (hi h) (by omega)
 have hown:=Zjp _ t.ty (Nat.le_refl _) (by omega)
 refine M.F Tryz.func219 ?_
 repeat'(first|refine M.gw ?_|refine M.cv (hcb (by simpa using h)) [2,3] 0 ?_|refine M.c2 (hown) ?_|refine AW.condS U (fun h=> ?_) (fun h=> ?_)|fail)
 ·have hk:t.kind=1:=by simpa using h
  (exact M.n2 [some 0,some 1,some 2,some 3] (h8:=(by simp[zi,V.wk,V.wks,za,Ty.view,Tm.view,hre,hk])))
 all_goals
  rename_i hk1
  have hup:up t.kind bl≤bl+1:=by simp only[up];split<;>omega
  have hup0:0≤up t.kind bl:=by simp only[up];split<;>omega
  have hk1':¬t.kind=1:=by simpa using hk1
  refine AW.range t.args.length (fun m=>True)
   (fun m=>([(1,.i (up t.kind bl)),(3,.ptr 1 0),(6,.ptr 5 0),(7,.ptr 6 0),(32,.s .tm t.args),(33,.i t.args.length),(34,.i m)],⟨8,[(0,.var [.fn (.func 181) [] [.ptr 2 0,.ptr 3 0]]),(1,.var [.fn (.func 219) [] [.ptr 0 0,.ptr 1 0]]),(2,.var [.i at_]),(3,.var s.view),(4,.var t.view),(5,.var [.i 0,.i 0,.i 0,.slice .nil (.t .ty []),.slice .nil (.t .tm [])]),(6,.var [.i t.kind,.i t.index,.i t.ty.kind,.s .ty t.ty.args,.slice (.own 7) (.t .tm ((t.args.take m).map (Tm.re (y5 at_ s) (up t.kind bl))))]),(7,.row)]⟩))
   (by omega) (fun m=>rfl) (fun m=>rfl) rfl trivial ?_ ?_ ?_
  ·simp_all only[beq_iff_eq,beq_eq_false_iff_ne,ne_eq]
   exact(M.W [some 0,some 1,some 2,some 3,some 4,some 5,some 6,none] (hf:=(by(repeat'(first|exact trivial|refine And.intro ?_ ?_|refine⟨_,U,_,U,?_⟩|exact VLe.refl _|exact VLe.of_eq (by simp[Sto.upd,up, *])));done)))
  ·intro m hm hP
   have hs2:=zb Tm.full (List.getElem_mem hm)
   have hix':∀p∈(t.args[m]).vars (up t.kind bl),0≤p.1∧p.1<9223372036854775808:=fun p hp=>hix p (by rw[hv];exact List.mem_append_right _ (List.mem_flatMap.2 ⟨_,List.getElem_mem hm,hp⟩))
   have hc:=ih t.args[m] (up t.kind bl) (by omega) (by omega) hup0 (by omega) hix'
   repeat'(first|refine M.gw ?_|refine M.cv (hc) [0,1,2,3] 0 ?_|fail)
   refine⟨rfl,trivial,?_⟩
   exact(M.W [some 0,some 1,some 2,some 3,some 4,some 5,some 6,some 9] (he:=(by(repeat'(first|exact trivial|exact Or.inr ⟨_,U,rfl⟩|refine And.intro ?_ ?_|refine⟨_,U,_,U,_,U,?_⟩|exact VLe.refl _|exact VLe.of_eq (by simp[Sto.upd,yc _ _ _ hm])));done)))
  ·intro hP
   repeat'(first|refine M.gw ?_|fail)
   (exact M.n2 [some 0,some 1,some 2,some 3] (h8:=(by simp[zi,V.wk,V.wks,za,Ty.view,Tm.view,hre,hk1'])))
theorem Yd4(at_:Int)(s:Tm)(hat:0≤at_∧at_<549755813888)(hs:s.full<274877906944)(hsi:∀p∈s.vars 0,0≤p.1∧p.1<549755813888)(t:Tm)(ht:t.full<274877906944)(hix:∀p∈t.vars 0,0≤p.1∧p.1<9223372036854775808):AC E 180 [.agg t.view,.fn (.func 181) [] [.ptr 0 0,.ptr 1 0]] ⟨2,[(0,.var [.i at_]),(1,.var s.view)]⟩ (.agg (t.re (y5 at_ s) 0).view) ⟨2,[(0,.var [.i at_]),(1,.var s.view)]⟩:=by
 have hc:=Ydb at_ s hat hs hsi _ t 0 (Nat.le_refl _) (by omega) (by omega) (by omega) hix
 refine M.F Tryz.func180 ?_
 repeat'(first|refine M.gw ?_|refine M.cv (hc) [3,5,0,1] 0 ?_|fail)
 (exact M.n2 [some 0,some 1] (h8:=(by simp[zi,V.wk,V.wks,za,Ty.view,Tm.view,hc])))
theorem Yev(t:Tm)(at_:Int)(s:Tm)(hat:0≤at_∧at_<549755813888)(hs:s.full<274877906944)(hsi:∀p∈s.vars 0,0≤p.1∧p.1<549755813888)(ht:t.full<274877906944)(hix:∀p∈t.vars 0,0≤p.1∧p.1<9223372036854775808):PC E 128 [.agg t.view,.i at_,.agg s.view] (.agg (t.re (y5 at_ s) 0).view):=by
 have hc:=Yd4 at_ s hat hs hsi t ht hix
 refine M.F Tryz.func128 ?_
 repeat'(first|refine M.gw ?_|refine M.cb (hc) [1,2] 0 ?_|fail)
 simp[zi,V.wk,V.wks,za,Ty.view,Tm.view]
theorem Ybf(t:Tm)(at_:Int)(s:Tm)(hat:0≤at_∧at_<549755813888)(hs:s.full<274877906944)(hsi:∀p∈s.vars 0,0≤p.1∧p.1<549755813888)(ht:t.full<274877906944)(hix:∀p∈t.vars 0,0≤p.1∧p.1<549755813888):PC E 128 [.agg t.view,.i at_,.agg s.view] (.agg (t.re (y5 at_ s) 0).view):=
 Yev t at_ s hat hs hsi ht fun p hp=>by have:=hix p hp;omega
theorem Yfa(n k:Int)(hk:0<k∧k<1099511627776):PC E 104 [.i n,.i k] (.i (Yay n k)):=by
 have hb1:=Int.tmod_lt_of_pos n hk.1
 have hb2:=Zsk n k hk.1
 refine M.F Tryz.func104 ?_
 repeat'(first|refine M.gw ?_|fail)
 rfl
theorem ud(d:Dk)(n:Int)(hd:d.ok)(hn:n<1099511627776):AC E 32 [.ptr 0 0,.i n] ⟨1,[(0,.var d.cells)]⟩ (.i (d.next n).1) ⟨1,[(0,.var (d.next n).2.cells)]⟩:=by
 obtain⟨hd1,hd2⟩:=hd
 have hm:¬n<1→∀x,PC E 104 [.i x,.i n] (.i (Yay x n)):=fun h x=>Yfa x n ⟨by omega,hn⟩
 refine M.F Tryz.func32 ?_
 repeat'(first|refine M.gw ?_|refine M.c2 (hm (by simp_all) _) ?_|((fail_if_success refine AX.wt U ?_);refine AX.gs U U (fun _=>trivial) (fun h=> ?_) (fun h=> ?_))|refine AW.condS U (fun h=> ?_) (fun h=> ?_)|fail)
 ·have h':n<1:=by simpa using h
  have e:d.next n=(0,d):=dif_pos (.inl h')
  (exact M.n2 [some 0] (h6:=(by(repeat'(first|exact trivial|refine And.intro ?_ ?_|refine⟨_,U,_,U,_,U,?_⟩|exact VLe.of_eq (by simp[Sto.upd,e,Dk.cells])));done)) (h8:=(by simp[zi,V.wk,V.wks,za,Ty.view,Tm.view,e,Dk.cells])))
 ·have h':d.l.length≤d.at_:=by simp at h;omega
  have e:d.next n=(0,d):=dif_pos (.inr h')
  (exact M.n2 [some 0] (h6:=(by(repeat'(first|exact trivial|refine And.intro ?_ ?_|refine⟨_,U,_,U,_,U,?_⟩|exact VLe.of_eq (by simp[Sto.upd,e,Dk.cells])));done)) (h8:=(by simp[zi,V.wk,V.wks,za,Ty.view,Tm.view,e,Dk.cells])))
 ·rename_i h0
  have h':¬(n<1∨d.l.length≤d.at_):=by simp at h h0;omega
  have e:d.next n=(Yay (d.l[d.at_]'(by omega)) n,⟨d.l,d.at_+1⟩):=dif_neg h'
  (exact M.n2 [some 0] (h6:=(by(repeat'(first|exact trivial|refine And.intro ?_ ?_|refine⟨_,U,_,U,_,U,?_⟩|exact VLe.of_eq (by simp[Sto.upd,e,Dk.cells])));done)) (h8:=(by simp[zi,V.wk,V.wks,za,Ty.view,Tm.view,e,Dk.cells])))
theorem Yfc(l:List Int):PC E 7 [.s .int l] (.bool (decide (l.length≤500))):=by
 refine M.F Tryz.func7 ?_
 repeat'(first|refine M.gw ?_|fail)
 simp[zi,V.wk,V.wks]
 omega
theorem Ye0(l:List Int):AC E 8 [.s .int l] ⟨0,[]⟩ (.ptr 0 0) ⟨1,[(0,.var (Dk.mk l 0).cells)]⟩:=by
 refine M.F Tryz.func8 ?_
 repeat'(first|refine M.gw ?_|fail)
 (exact M.n2 [some 0] (h8:=(by simp[zi,V.wk,V.wks,za,Ty.view,Tm.view,Dk.cells])))
theorem Zhm:∀(n:Nat) (k:Int) (d:Dk),k≤n→n≤20→-100≤k→d.ok→AC E 14 [.ptr 0 0,.i k] ⟨1,[(0,.var d.cells)]⟩ (.agg (d.type k.toNat).1.view) ⟨1,[(0,.var (d.type k.toNat).2.cells)]⟩:=by
 intro n
 induction n with
 |zero=>
  intro k d hk hn hk' hd
  have h1:=ud d 7 hd (by omega)
  have e:=Dk.type_eq k d
  refine AC.mk Tryz.func14 rfl rfl rfl rfl rfl (Nat.le_of_ble_eq_true rfl) ?_
  repeat'(first|((with_reducible refine D.nil ?_);refine AX.nilL ?_)|((with_reducible refine D.move ?_);refine L.mv U U U ?_)|((with_reducible refine D.assign ?_);refine L.asg U U U ?_)|((with_reducible refine D.bin ?_);first|refine L.sb U U U U (by omega) ?_|refine L.bn U U U U U ?_)|((with_reducible refine D.call ?_);first|(apply L.cb2 (h1) [0] 0 rfl;rfl;rfl;rfl;rfl;rfl;rfl;(focus((repeat'(first|exact trivial|refine And.intro ?_ ?_|refine⟨_,U,_,U,_,U,?_⟩|exact VLe.refl _));done));rfl;rfl;rfl;rfl)|refine L.c2 (vb) U U U U ?_|refine L.c2 (uc) U U U U ?_|refine L.c2 (Zrp) U U U U ?_)|((with_reducible refine D.alloc ?_);refine L.al U U U ?_)|((with_reducible refine D.store ?_);refine L.st U U U U U U U U U ?_)|((with_reducible refine D.aw ?_);first|((with_reducible refine D.blk ?_);refine AW.block ?_)|refine K.sq (AW.regL ?_)|refine K.sq (K.sq ?_)|refine AW.regL ?_|refine AW.condT U ?_|refine AW.condS U (fun h=> ?_) (fun h=> ?_)|refine AW.skip ?_|refine AW.ret ?_)|with_reducible refine K.tN ?_|with_reducible refine K.bN ?_|with_reducible refine K.tR ?_|with_reducible refine K.bR ?_)
  all_goals first
   |(exfalso;simp at*;omega)
   |(simp only[beq_iff_eq,beq_eq_false_iff_ne,ne_eq,decide_eq_true_eq,decide_eq_false_iff_not,gt_iff_lt] at*
     simp[*] at e
     (exact K.n2 [some 0] U U U U U (by(repeat'(first|exact trivial|refine And.intro ?_ ?_|refine⟨_,U,_,U,_,U,?_⟩|exact VLe.of_eq (by simp[Sto.upd,e])));done) U (by simp[zi,V.wk,V.wks,za,Ty.view,Tm.view,e])))
 |succ n ih=>
  intro k d hk hn hk' hd
  have h1:=ud d 7 hd (by omega)
  have e:=Dk.type_eq k d
  have i1:k>0→_:=fun h=>ih (k-1) (d.next 7).2 (by omega) (by omega) (by omega) (Dk.next_ok hd 7)
  have i2:k>0→_:=fun h=>ih (k-1) ((d.next 7).2.type (k-1).toNat).2 (by omega) (by omega) (by omega) (Dk.type_ok _ _ (Dk.next_ok hd 7))
  have i3:=Ycq ((d.next 7).2.type (k-1).toNat).1 ((((d.next 7).2.type (k-1).toNat).2).type (k-1).toNat).1 (Dk.type_small _ _ (by omega)) (Dk.type_small _ _ (by omega))
  have i4:=Zm6 ((d.next 7).2.type (k-1).toNat).1 ((((d.next 7).2.type (k-1).toNat).2).type (k-1).toNat).1 (Dk.type_small _ _ (by omega)) (Dk.type_small _ _ (by omega))
  refine AC.mk Tryz.func14 rfl rfl rfl rfl rfl (Nat.le_of_ble_eq_true rfl) ?_
  repeat'(first|((with_reducible refine D.nil ?_);refine AX.nilL ?_)|((with_reducible refine D.move ?_);refine L.mv U U U ?_)|((with_reducible refine D.assign ?_);refine L.asg U U U ?_)|((with_reducible refine D.bin ?_);first|refine L.sb U U U U (by omega) ?_|refine L.bn U U U U U ?_)|((with_reducible refine D.call ?_);first|(apply L.cb2 (h1) [0] 0 rfl;rfl;rfl;rfl;rfl;rfl;rfl;(focus((repeat'(first|exact trivial|refine And.intro ?_ ?_|refine⟨_,U,_,U,_,U,?_⟩|exact VLe.refl _));done));rfl;rfl;rfl;rfl)|refine L.c2 (vb) U U U U ?_|refine L.c2 (uc) U U U U ?_|refine L.c2 (Zrp) U U U U ?_|(apply L.cb2 (i1 (by simp_all)) [0] 0 rfl;rfl;rfl;rfl;rfl;rfl;rfl;(focus((repeat'(first|exact trivial|refine And.intro ?_ ?_|refine⟨_,U,_,U,_,U,?_⟩|exact VLe.refl _));done));rfl;rfl;rfl;rfl)|(apply L.cb2 (i2 (by simp_all)) [0] 0 rfl;rfl;rfl;rfl;rfl;rfl;rfl;(focus((repeat'(first|exact trivial|refine And.intro ?_ ?_|refine⟨_,U,_,U,_,U,?_⟩|exact VLe.refl _));done));rfl;rfl;rfl;rfl)|refine L.c2 (i3) U U U U ?_|refine L.c2 (i4) U U U U ?_)|((with_reducible refine D.alloc ?_);refine L.al U U U ?_)|((with_reducible refine D.store ?_);refine L.st U U U U U U U U U ?_)|((with_reducible refine D.aw ?_);first|((with_reducible refine D.blk ?_);refine AW.block ?_)|refine K.sq (AW.regL ?_)|refine K.sq (K.sq ?_)|refine AW.regL ?_|refine AW.condT U ?_|refine AW.condS U (fun h=> ?_) (fun h=> ?_)|refine AW.skip ?_|refine AW.ret ?_)|with_reducible refine K.tN ?_|with_reducible refine K.bN ?_|with_reducible refine K.tR ?_|with_reducible refine K.bR ?_)
  all_goals
   simp only[beq_iff_eq,beq_eq_false_iff_ne,ne_eq,decide_eq_true_eq,decide_eq_false_iff_not,gt_iff_lt] at*
   simp[*] at e
   (exact K.n2 [some 0] U U U U U (by(repeat'(first|exact trivial|refine And.intro ?_ ?_|refine⟨_,U,_,U,_,U,?_⟩|exact VLe.of_eq (by simp[Sto.upd,e])));done) U (by simp[zi,V.wk,V.wks,za,Ty.view,Tm.view,e]))
end Go.Ab
