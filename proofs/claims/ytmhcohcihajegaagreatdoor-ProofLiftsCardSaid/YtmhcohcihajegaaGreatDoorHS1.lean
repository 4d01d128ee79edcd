/- A part of this seat's proofs. No conditions. -/
import Derived.Test.YtmhcohcihajegaaGreatDoorRows
import Derived.Test.YtmhcohcihajegaaGreatDoorHD1
namespace Go.Ab
open Go Go.Proofs
def tab:List (TypeId×TI):=[
 (1,⟨1,[.nilf],.other⟩),
 (2,⟨1,[.int .i64 0],.int .i64⟩),
 (3,⟨1,[.int .i64 0],.int .i64⟩),
 (4,⟨1,[.bool false],.bool⟩),
 (5,⟨1,[.int .u8 0],.int .u8⟩),
 (7,⟨4,[.int .i64 0,.int .i64 0,.bool false,.int .u8 0],.strct [(0,1,false),(1,1,false),(2,1,false),(3,1,false)]⟩),
 (9,⟨1,[.str ⟨#[]⟩],.str⟩),
 (12,⟨1,[.int .u64 0],.int .u64⟩),
 (13,⟨2,[.str ⟨#[]⟩,.int .u64 0],.strct [(0,1,false),(1,1,false)]⟩),
 (15,⟨1,[.nilp],.other⟩),
 (16,⟨1,[.nilp],.other⟩),
 (17,⟨1,[.nilp],.other⟩),
 (18,⟨1,[.nilp],.strct [(0,1,false)]⟩),
 (20,⟨1,[.raw .nilIface],.other⟩),
 (21,⟨1,[.int .i32 0],.int .i32⟩),
 (22,⟨1,[.slice .nil (.t .int [])],.slc (some .int) 1 8⟩),
 (23,⟨1,[.nilf],.other⟩),
 (24,⟨1,[.nilf],.other⟩),
 (25,⟨1,[.nilp],.other⟩),
 (26,⟨1,[.nilf],.other⟩),
 (27,⟨1,[.slice .nil (.t .fm [])],.slc (some .fm) 5 88⟩),
 (28,⟨1,[.nilf],.other⟩),
 (29,⟨1,[.slice .nil (.t .ty [])],.slc (some .ty) 2 32⟩),
 (30,⟨2,[.slice .nil (.t .ty []),.slice .nil (.t .fm [])],.strct [(0,1,false),(1,1,false)]⟩),
 (31,⟨2,[.slice .nil (.t .ty []),.slice .nil (.t .fm [])],.strct [(0,1,false),(1,1,false)]⟩),
 (32,⟨1,[.nilf],.other⟩),
 (33,⟨2,[.int .i64 0,.slice .nil (.t .ty [])],.strct [(0,1,false),(1,1,false)]⟩),
 (34,⟨2,[.int .i64 0,.slice .nil (.t .ty [])],.strct [(0,1,false),(1,1,false)]⟩),
 (35,⟨1,[.slice .nil (.t .tm [])],.slc (some .tm) 5 72⟩),
 (36,⟨1,[.slice .nil (.t .pf [])],.slc (some .pf) 7 120⟩),
 (37,⟨7,[.int .i64 0,.int .i64 0,.int .i64 0,.slice .nil (.t .ty []),.slice .nil (.t .tm []),.slice .nil (.t .fm []),.slice .nil (.t .pf [])],.strct [(0,1,false),(1,1,false),(2,2,true),(4,1,false),(5,1,false),(6,1,false)]⟩),
 (38,⟨7,[.int .i64 0,.int .i64 0,.int .i64 0,.slice .nil (.t .ty []),.slice .nil (.t .tm []),.slice .nil (.t .fm []),.slice .nil (.t .pf [])],.strct [(0,1,false),(1,1,false),(2,2,true),(4,1,false),(5,1,false),(6,1,false)]⟩),
 (39,⟨1,[.nilf],.other⟩),
 (40,⟨1,[.nilf],.other⟩),
 (41,⟨5,[.int .i64 0,.int .i64 0,.slice .nil (.t .ty []),.slice .nil (.t .tm []),.slice .nil (.t .fm [])],.strct [(0,1,false),(1,2,true),(3,1,false),(4,1,false)]⟩),
 (42,⟨5,[.int .i64 0,.int .i64 0,.slice .nil (.t .ty []),.slice .nil (.t .tm []),.slice .nil (.t .fm [])],.strct [(0,1,false),(1,2,true),(3,1,false),(4,1,false)]⟩),
 (43,⟨6,[.int .i64 0,.int .i64 0,.slice .nil (.t .ty []),.slice .nil (.t .tm []),.slice .nil (.t .fm []),.slice .nil (.t .int [])],.strct [(0,5,true),(5,1,false)]⟩),
 (44,⟨6,[.int .i64 0,.int .i64 0,.slice .nil (.t .ty []),.slice .nil (.t .tm []),.slice .nil (.t .fm []),.slice .nil (.t .int [])],.strct [(0,5,true),(5,1,false)]⟩),
 (46,⟨1,[.nilf],.other⟩),
 (47,⟨1,[.int .i64 0],.int .i64⟩),
 (49,⟨1,[.nilf],.other⟩),
 (51,⟨1,[.nilf],.other⟩),
 (52,⟨1,[.nilf],.other⟩),
 (53,⟨1,[.nilf],.other⟩),
 (54,⟨1,[.nilf],.other⟩),
 (55,⟨1,[.nilf],.other⟩),
 (57,⟨1,[.nilf],.other⟩),
 (58,⟨1,[.nilf],.other⟩),
 (59,⟨1,[.nilf],.other⟩),
 (61,⟨1,[.nilf],.other⟩),
 (62,⟨1,[.raw (.map none)],.other⟩),
 (63,⟨1,[.nilf],.other⟩),
 (64,⟨1,[.nilf],.other⟩),
 (65,⟨1,[.nilf],.other⟩),
 (66,⟨5,[.int .i64 0,.int .i64 0,.int .i64 0,.slice .nil (.t .ty []),.slice .nil (.t .tm [])],.strct [(0,1,false),(1,1,false),(2,2,true),(4,1,false)]⟩),
 (67,⟨5,[.int .i64 0,.int .i64 0,.int .i64 0,.slice .nil (.t .ty []),.slice .nil (.t .tm [])],.strct [(0,1,false),(1,1,false),(2,2,true),(4,1,false)]⟩),
 (68,⟨1,[.nilf],.other⟩),
 (69,⟨1,[.nilf],.other⟩),
 (70,⟨2,[.slice .nil (.t .int []),.int .i64 0],.strct [(0,1,false),(1,1,false)]⟩),
 (71,⟨2,[.slice .nil (.t .int []),.int .i64 0],.strct [(0,1,false),(1,1,false)]⟩),
 (72,⟨1,[.nilf],.other⟩),
 (73,⟨1,[.nilf],.other⟩),
 (74,⟨1,[.nilf],.other⟩),
 (75,⟨1,[.nilf],.other⟩),
 (76,⟨1,[.nilf],.other⟩),
 (77,⟨1,[.nilf],.other⟩),
 (78,⟨1,[.nilf],.other⟩),
 (79,⟨1,[.nilf],.other⟩),
 (80,⟨1,[.nilf],.other⟩),
 (81,⟨3,[.slice .nil (.t .fm []),.slice .nil (.t .ty []),.slice .nil (.t .fm [])],.strct [(0,1,false),(1,1,false),(2,1,false)]⟩),
 (82,⟨3,[.slice .nil (.t .fm []),.slice .nil (.t .ty []),.slice .nil (.t .fm [])],.strct [(0,1,false),(1,1,false),(2,1,false)]⟩),
 (83,⟨1,[.nilf],.other⟩),
 (84,⟨1,[.nilf],.other⟩),
 (85,⟨1,[.nilf],.other⟩),
 (86,⟨1,[.nilf],.other⟩),
 (87,⟨1,[.nilf],.other⟩),
 (88,⟨1,[.nilf],.other⟩),
 (89,⟨1,[.nilf],.other⟩),
 (90,⟨1,[.nilf],.other⟩),
 (91,⟨1,[.nilf],.other⟩),
 (92,⟨1,[.nilf],.other⟩),
 (93,⟨1,[.nilf],.other⟩),
 (94,⟨1,[.nilf],.other⟩),
 (95,⟨1,[.nilf],.other⟩),
 (96,⟨1,[.nilf],.other⟩),
 (97,⟨1,[.nilf],.other⟩),
 (98,⟨1,[.nilf],.other⟩),
 (99,⟨1,[.nilf],.other⟩),
 (100,⟨1,[.nilf],.other⟩),
 (101,⟨1,[.nilf],.other⟩),
 (102,⟨1,[.nilf],.other⟩),
 (103,⟨1,[.nilf],.other⟩),
 (104,⟨1,[.nilf],.other⟩),
 (105,⟨1,[.raw (.map none)],.other⟩),
 (106,⟨1,[.nilf],.other⟩),
 (107,⟨1,[.nilf],.other⟩),
 (108,⟨1,[.nilf],.other⟩),
 (109,⟨3,[.nilf,.nilf,.nilf],.strct [(0,1,false),(1,1,false),(2,1,false)]⟩),
 (110,⟨3,[.nilf,.nilf,.nilf],.strct [(0,1,false),(1,1,false),(2,1,false)]⟩),
 (111,⟨2,[.int .i64 0,.int .i64 0],.strct [(0,1,false),(1,1,false)]⟩),
 (112,⟨2,[.int .i64 0,.int .i64 0],.strct [(0,1,false),(1,1,false)]⟩),
 (113,⟨1,[.nilf],.other⟩),
 (114,⟨1,[.nilf],.other⟩),
 (116,⟨1,[.nilf],.other⟩),
 (117,⟨1,[.nilf],.other⟩),
 (118,⟨1,[.nilf],.other⟩),
 (119,⟨1,[.nilf],.other⟩),
 (120,⟨1,[.nilf],.other⟩),
 (121,⟨1,[.nilf],.other⟩),
 (122,⟨1,[.nilf],.other⟩),
 (123,⟨1,[.nilf],.other⟩),
 (125,⟨1,[.nilf],.other⟩),
 (126,⟨1,[.nilf],.other⟩),
 (127,⟨1,[.nilf],.other⟩),
 (128,⟨1,[.nilf],.other⟩),
 (129,⟨1,[.nilf],.other⟩),
 (130,⟨1,[.nilf],.other⟩),
 (131,⟨1,[.nilf],.other⟩),
 (132,⟨1,[.nilf],.other⟩),
 (133,⟨1,[.nilf],.other⟩),
 (134,⟨1,[.nilf],.other⟩),
 (135,⟨1,[.nilf],.other⟩),
 (137,⟨1,[.nilf],.other⟩),
 (139,⟨1,[.nilf],.other⟩),
 (140,⟨1,[.nilf],.other⟩),
 (141,⟨1,[.nilf],.other⟩),
 (142,⟨1,[.nilf],.other⟩),
 (143,⟨1,[.nilf],.other⟩),
 (144,⟨1,[.nilf],.other⟩),
 (145,⟨1,[.nilf],.other⟩),
 (146,⟨3,[.nilf,.nilf,.nilf],.strct [(0,1,false),(1,1,false),(2,1,false)]⟩),
 (147,⟨3,[.nilf,.nilf,.nilf],.strct [(0,1,false),(1,1,false),(2,1,false)]⟩),
 (148,⟨1,[.nilf],.other⟩),
 (149,⟨1,[.nilf],.other⟩),
 (150,⟨1,[.nilf],.other⟩),
 (151,⟨1,[.nilf],.other⟩),
 (152,⟨1,[.nilf],.other⟩),
 (153,⟨1,[.nilf],.other⟩),
 (154,⟨1,[.nilf],.other⟩),
 (155,⟨1,[.nilf],.other⟩),
 (156,⟨1,[.nilf],.other⟩),
 (157,⟨1,[.nilf],.other⟩),
 (158,⟨1,[.nilf],.other⟩),
 (159,⟨1,[.nilf],.other⟩),
 (160,⟨1,[.nilf],.other⟩),
 (161,⟨1,[.nilf],.other⟩),
 (162,⟨1,[.nilf],.other⟩),
 (163,⟨5,[.int .i64 0,.int .i64 0,.int .i64 0,.bool false,.bool false],.strct [(0,1,false),(1,1,false),(2,1,false),(3,1,false),(4,1,false)]⟩),
 (164,⟨5,[.int .i64 0,.int .i64 0,.int .i64 0,.bool false,.bool false],.strct [(0,1,false),(1,1,false),(2,1,false),(3,1,false),(4,1,false)]⟩),
 (166,⟨1,[.nilf],.other⟩),
 (167,⟨1,[.nilf],.other⟩),
 (168,⟨1,[.nilf],.other⟩),
 (169,⟨1,[.nilf],.other⟩),
 (170,⟨1,[.nilf],.other⟩),
 (171,⟨1,[.nilf],.other⟩),
 (172,⟨1,[.nilf],.other⟩),
 (173,⟨1,[.nilp],.other⟩),
 (174,⟨2,[.int .i64 0,.bool false],.strct [(0,1,false),(1,1,false)]⟩),
 (175,⟨2,[.int .i64 0,.bool false],.strct [(0,1,false),(1,1,false)]⟩),
 (176,⟨8,[.bool false,.bool false,.int .i64 0,.int .i64 0,.int .i64 0,.int .i64 0,.int .i64 0,.int .i64 0],.strct [(0,1,false),(1,1,false),(2,1,false),(3,1,false),(4,1,false),(5,1,false),(6,1,false),(7,1,false)]⟩),
 (177,⟨8,[.bool false,.bool false,.int .i64 0,.int .i64 0,.int .i64 0,.int .i64 0,.int .i64 0,.int .i64 0],.strct [(0,1,false),(1,1,false),(2,1,false),(3,1,false),(4,1,false),(5,1,false),(6,1,false),(7,1,false)]⟩),
 (179,⟨1,[.nilf],.other⟩),
 (180,⟨1,[.nilf],.other⟩),
 (181,⟨1,[.nilf],.other⟩),
 (182,⟨1,[.nilf],.other⟩),
 (184,⟨1,[.nilf],.other⟩),
 (185,⟨1,[.nilf],.other⟩),
 (186,⟨1,[.nilf],.other⟩),
 (187,⟨1,[.nilf],.other⟩),
 (188,⟨1,[.nilf],.other⟩),
 (189,⟨1,[.nilf],.other⟩),
 (190,⟨1,[.nilf],.other⟩),
 (191,⟨1,[.nilf],.other⟩),
 (192,⟨1,[.nilf],.other⟩),
 (193,⟨1,[.nilf],.other⟩),
 (194,⟨1,[.nilf],.other⟩),
 (195,⟨1,[.nilf],.other⟩),
 (197,⟨1,[.nilf],.other⟩),
 (198,⟨1,[.nilf],.other⟩),
 (200,⟨1,[.nilf],.other⟩),
 (201,⟨1,[.nilf],.other⟩),
 (202,⟨1,[.nilf],.other⟩),
 (203,⟨1,[.nilf],.other⟩),
 (204,⟨1,[.nilf],.other⟩),
 (205,⟨1,[.nilf],.other⟩),
 (206,⟨1,[.nilf],.other⟩),
 (207,⟨1,[.nilf],.other⟩),
 (208,⟨168,[.bool false,.bool false,.int .i64 0,.int .i64 0,.int .i64 0,.int .i64 0,.int .i64 0,.int .i64 0,.bool false,.bool false,.int .i64 0,.int .i64 0,.int .i64 0,.int .i64 0,.int .i64 0,.int .i64 0,.bool false,.bool false,.int .i64 0,.int .i64 0,.int .i64 0,.int .i64 0,.int .i64 0,.int .i64 0,.bool false,.bool false,.int .i64 0,.int .i64 0,.int .i64 0,.int .i64 0,.int .i64 0,.int .i64 0,.bool false,.bool false,.int .i64 0,.int .i64 0,.int .i64 0,.int .i64 0,.int .i64 0,.int .i64 0,.bool false,.bool false,.int .i64 0,.int .i64 0,.int .i64 0,.int .i64 0,.int .i64 0,.int .i64 0,.bool false,.bool false,.int .i64 0,.int .i64 0,.int .i64 0,.int .i64 0,.int .i64 0,.int .i64 0,.bool false,.bool false,.int .i64 0,.int .i64 0,.int .i64 0,.int .i64 0,.int .i64 0,.int .i64 0,.bool false,.bool false,.int .i64 0,.int .i64 0,.int .i64 0,.int .i64 0,.int .i64 0,.int .i64 0,.bool false,.bool false,.int .i64 0,.int .i64 0,.int .i64 0,.int .i64 0,.int .i64 0,.int .i64 0,.bool false,.bool false,.int .i64 0,.int .i64 0,.int .i64 0,.int .i64 0,.int .i64 0,.int .i64 0,.bool false,.bool false,.int .i64 0,.int .i64 0,.int .i64 0,.int .i64 0,.int .i64 0,.int .i64 0,.bool false,.bool false,.int .i64 0,.int .i64 0,.int .i64 0,.int .i64 0,.int .i64 0,.int .i64 0,.bool false,.bool false,.int .i64 0,.int .i64 0,.int .i64 0,.int .i64 0,.int .i64 0,.int .i64 0,.bool false,.bool false,.int .i64 0,.int .i64 0,.int .i64 0,.int .i64 0,.int .i64 0,.int .i64 0,.bool false,.bool false,.int .i64 0,.int .i64 0,.int .i64 0,.int .i64 0,.int .i64 0,.int .i64 0,.bool false,.bool false,.int .i64 0,.int .i64 0,.int .i64 0,.int .i64 0,.int .i64 0,.int .i64 0,.bool false,.bool false,.int .i64 0,.int .i64 0,.int .i64 0,.int .i64 0,.int .i64 0,.int .i64 0,.bool false,.bool false,.int .i64 0,.int .i64 0,.int .i64 0,.int .i64 0,.int .i64 0,.int .i64 0,.bool false,.bool false,.int .i64 0,.int .i64 0,.int .i64 0,.int .i64 0,.int .i64 0,.int .i64 0,.bool false,.bool false,.int .i64 0,.int .i64 0,.int .i64 0,.int .i64 0,.int .i64 0,.int .i64 0],.arr 21 8 true⟩),
 (209,⟨2,[.int .i64 0,.int .i64 0],.strct [(0,1,false),(1,1,false)]⟩),
 (210,⟨2,[.int .i64 0,.int .i64 0],.strct [(0,1,false),(1,1,false)]⟩),
 (211,⟨1,[.nilf],.other⟩),
 (212,⟨1,[.slice .nil (.u 2 [])],.slc none 2 16⟩),
 (213,⟨1,[.nilf],.other⟩),
 (214,⟨1,[.nilf],.other⟩),
 (215,⟨1,[.nilf],.other⟩),
 (216,⟨1,[.nilf],.other⟩),
 (217,⟨1,[.nilf],.other⟩),
 (218,⟨1,[.nilf],.other⟩),
 (220,⟨1,[.nilf],.other⟩),
 (221,⟨1,[.nilf],.other⟩),
 (222,⟨1,[.nilf],.other⟩),
 (223,⟨1,[.nilf],.other⟩),
 (224,⟨1,[.nilf],.other⟩),
 (226,⟨1,[.nilf],.other⟩),
 (227,⟨1,[.nilf],.other⟩),
 (228,⟨1,[.nilf],.other⟩),
 (229,⟨1,[.nilp],.other⟩),
 (230,⟨2,[.int .i64 0,.bool false],.strct [(0,1,false),(1,1,false)]⟩),
 (231,⟨2,[.int .i64 0,.bool false],.strct [(0,1,false),(1,1,false)]⟩),
 (232,⟨1,[.nilf],.other⟩),
 (233,⟨1,[.nilf],.other⟩),
 (234,⟨1,[.nilf],.other⟩),
 (235,⟨1,[.nilf],.other⟩),
 (236,⟨1,[.nilf],.other⟩),
 (237,⟨1,[.nilf],.other⟩),
 (238,⟨1,[.nilf],.other⟩),
 (239,⟨1,[.int .u64 0],.int .u64⟩),
 (240,⟨1,[.nilf],.other⟩),
 (241,⟨1,[.nilf],.other⟩),
 (242,⟨1,[.nilf],.other⟩),
 (243,⟨1,[.nilf],.other⟩),
 (244,⟨1,[.nilf],.other⟩),
 (245,⟨1,[.nilf],.other⟩),
 (246,⟨1,[.nilf],.other⟩),
 (247,⟨1,[.int .i64 0],.int .i64⟩),
 (249,⟨1,[.nilf],.other⟩),
 (250,⟨1,[.nilf],.other⟩),
 (251,⟨1,[.nilf],.other⟩),
 (252,⟨1,[.nilf],.other⟩),
 (253,⟨1,[.nilf],.other⟩),
 (254,⟨1,[.int .u32 0],.int .u32⟩),
 (255,⟨1,[.nilf],.other⟩),
 (256,⟨1,[.int .u64 0],.int .u64⟩),
 (257,⟨1,[.nilf],.other⟩),
 (258,⟨14,[.int .i64 0,.int .i64 0,.int .i64 0,.int .i64 0,.int .i64 0,.int .i64 0,.int .i64 0,.int .i64 0,.int .i64 0,.int .i64 0,.int .i64 0,.int .i64 0,.int .i64 0,.int .i64 0],.arr 14 1 false⟩),
 (259,⟨1,[.int .u64 0],.int .u64⟩),
 (260,⟨1,[.nilf],.other⟩),
 (261,⟨1,[.nilf],.other⟩),
 (262,⟨1,[.nilf],.other⟩),
 (263,⟨1,[.nilp],.other⟩),
 (264,⟨1,[.nilf],.other⟩),
 (265,⟨1,[.nilp],.other⟩),
 (267,⟨1,[.nilf],.other⟩),
 (268,⟨1,[.nilf],.other⟩),
 (269,⟨4,[.nilp,.nilp,.nilp,.str ⟨#[]⟩],.strct [(0,1,false),(1,1,false),(2,1,false),(3,1,false)]⟩),
 (271,⟨0,[],.arr 0 1 false⟩),
 (274,⟨1,[.nilf],.other⟩),
 (277,⟨1,[.nilf],.other⟩),
 (278,⟨1,[.nilp],.other⟩),
 (281,⟨11,[.int .u64 0,.int .u64 0,.int .u32 0,.int .u8 0,.int .u8 0,.int .u8 0,.int .u8 0,.nilf,.nilp,.int .i32 0,.int .i32 0],.strct [(0,1,false),(1,1,false),(2,1,false),(3,1,false),(4,1,false),(5,1,false),(6,1,false),(7,1,false),(8,1,false),(9,1,false),(10,1,false)]⟩)]
set_option maxRecDepth 100000
theorem Yll:tab.all (fun p=>tiB Tryz.prog p.1 p.2)=true:=by kernel_rfl
def ruV:List V:=[.bool false,.bool false,.i 0,.i 0,.i 0,.i 0,.i 0,.i 0,.bool true,.bool false,.i 0,.i 0,.i 0,.i 0,.i 0,.i 0,.bool true,.bool false,.i 0,.i 0,.i 0,.i 0,.i 0,.i 0,.bool false,.bool false,.i 0,.i 0,.i 2,.i 0,.i 0,.i 0,.bool false,.bool false,.i 0,.i 0,.i 1,.i 0,.i 0,.i 0,.bool false,.bool false,.i 0,.i 0,.i 1,.i 0,.i 0,.i 0,.bool false,.bool false,.i 0,.i 1,.i 1,.i 0,.i 0,.i 1,.bool false,.bool false,.i 0,.i 0,.i 2,.i 0,.i 0,.i 0,.bool false,.bool true,.i 0,.i 0,.i 1,.i 0,.i 1,.i 0,.bool false,.bool false,.i 1,.i 0,.i 1,.i 0,.i 0,.i 0,.bool false,.bool false,.i 1,.i 1,.i 1,.i 0,.i 0,.i 0,.bool false,.bool false,.i 0,.i 0,.i 2,.i 0,.i 1,.i 1,.bool false,.bool true,.i 0,.i 0,.i 1,.i 0,.i 1,.i 0,.bool false,.bool false,.i 1,.i 0,.i 1,.i 0,.i 0,.i 0,.bool false,.bool false,.i 1,.i 1,.i 1,.i 0,.i 0,.i 0,.bool false,.bool false,.i 0,.i 0,.i 2,.i 0,.i 1,.i 1,.bool false,.bool false,.i 1,.i 1,.i 2,.i 1,.i 1,.i 1,.bool false,.bool false,.i 1,.i 1,.i 2,.i 1,.i 2,.i 1,.bool false,.bool false,.i 1,.i 0,.i 0,.i 0,.i 0,.i 0,.bool false,.bool false,.i 0,.i 1,.i 2,.i 1,.i 0,.i 0,.bool false,.bool false,.i 0,.i 0,.i 1,.i 0,.i 0,.i 0]
def arV:List V:=[.i 0,.i 0,.i 1,.i 2,.i 0,.i 1,.i 3,.i 0,.i 2,.i 3,.i 2,.i 1,.i 1,.i 0]
noncomputable def E:Env:=⟨Tryz.prog,[(1,arV),(0,ruV)],tab,Yll,[]⟩
end Go.Ab
namespace Go.Ab
open Go Go.Proofs
set_option maxRecDepth 100000
set_option linter.all false
theorem mixed:E.P.follows .mixedOrders=true:=Tryz.checked.mixed
theorem vq:∀(b:Nat) (t:Ty),t.size<=b->b<1099511627776->PC E 103 [.agg t.view] (.agg t.view):=by
 intro b;induction b with
 |zero=>intro t h;have:=t.size_pos;omega
 |succ b ih=>
 intro t hsz hb;have hsz':=Ty.size_eq t;have hlen:=zg Ty.size Ty.size_pos t.args;refine M.F Tryz.func103 ?_;refine M.w0 ?_;refine M.rt t.args.length
  (fun m=>([(1,.ptr 0 0),(2,.ptr 1 0),(3,.slice (.own 2) (.t .ty (t.args.take m))),(7,.s .ty t.args),(8,.i t.args.length),(9,.i m)],⟨3,[(0,.var t.view),(1,.var [.i 0,.slice .nil (.t .ty [])]),(2,.row)]⟩))
  (M.W rn2) ?_ ?_
 ·intro m hm hP;have hs2:=zc Ty.size (List.getElem_mem hm);(repeat' first|refine M.w0 ?_|refine M.c2 (ih _ ?_ ?_) ?_|exact M.le|exact M.lt|fail);exact⟨rfl,trivial,(M.W [some 0,some 1,some 4] (hf:=(by(repeat'(first|exact trivial|refine And.intro ?_ ?_|refine⟨_,U,_,U,?_⟩|exact VLe.refl _|exact VLe.of_eq (by simp[Sto.upd,List.take_append_getElem])));done)))⟩
 ·intro hP;refine M.w0 ?_;simp[zn,V.wk,V.wks,za,Ty.view,Tm.view]
theorem Zfa:∀(b:Nat) (t:Ty),t.size<=b->b<1099511627776->PC E 168 [.agg t.view] (.agg t.view):=by
 intro b;induction b with
 |zero=>intro t h;have:=t.size_pos;omega
 |succ b ih=>
 intro t hsz hb;have hsz':=Ty.size_eq t;have hlen:=zg Ty.size Ty.size_pos t.args;refine M.F Tryz.func168 ?_;refine M.w0 ?_;refine M.rt t.args.length
  (fun m=>([(1,.ptr 0 0),(2,.ptr 1 0),(3,.ptr 2 0),(10,.s .ty t.args),(11,.i t.args.length),(12,.i m)],⟨4,[(0,.var t.view),(1,.var [.i 0,.slice .nil (.t .ty [])]),(2,.var [.i t.kind,.slice (.own 3) (.t .ty (t.args.take m))]),(3,.row)]⟩))
  (M.W rn3) ?_ ?_
 ·intro m hm hP;have hs2:=zc Ty.size (List.getElem_mem hm);(repeat' first|refine M.w0 ?_|refine M.c2 (ih _ ?_ ?_) ?_|exact M.le|exact M.lt|fail);exact⟨rfl,trivial,(M.W [some 0,some 1,some 2,some 5] (he:=(by(repeat'(first|exact trivial|exact Or.inr ⟨_,U,rfl⟩|refine And.intro ?_ ?_|refine⟨_,U,_,U,_,U,?_⟩|exact VLe.refl _|exact VLe.of_eq (by simp[Sto.upd,List.take_append_getElem])));done)))⟩
 ·intro hP;refine M.w0 ?_;simp[zn,V.wk,V.wks,za,Ty.view,Tm.view]
theorem Zq3:∀(b:Nat) (t:Ty),t.size<=b->b<1099511627776->PC E 221 [.agg t.view] (Zpq t):=by
 intro b;induction b with
 |zero=>intro t h;have:=t.size_pos;omega
 |succ b ih=>
 intro t hsz hb;have hsz':=Ty.size_eq t;have hlen:=zg Ty.size Ty.size_pos t.args;have hsh:=Ty.shape_eq t;refine M.F Tryz.func221 ?_;refine M.w0 ?_;refine AW.cutT (ι:={n:Nat // arT t.kind=some n}) (fun n=>([(1,.ptr 0 0),(4,.i n.1)],⟨1,[(0,.var t.view)]⟩)) ?_ ?_
 ·refine AW.block ?_;(repeat' first|refine M.w0 ?_|refine M.cs ?_ ?_<;>intro h|fail)
  ·exact ⟨⟨0,by simp at h;simp[arT,h]⟩,(M.W rh1)⟩
  ·exact ⟨⟨0,by simp at h;simp[arT,h]⟩,(M.W rh1)⟩
  ·exact ⟨⟨0,by simp at h;simp[arT,h]⟩,(M.W rh1)⟩
  ·exact ⟨⟨2,by simp at h;simp[arT,h]⟩,(M.W rh1)⟩
  ·exact ⟨⟨2,by simp at h;simp[arT,h]⟩,(M.W rh1)⟩
  ·have:t.shape=false:=by simp at*;simp[hsh,arT, *]
   simp[Zpq,Ty.nodes,this,zn,za,V.wk,V.wks]
 rintro⟨n,hn⟩;(repeat' first|refine M.w0 ?_|refine M.cs ?_ ?_<;>intro h|fail)
 ·have h1:¬t.args.length=n:=by simp at h;omega
  have:t.shape=false:=by simp[hsh,hn,h1]
  simp[Zpq,Ty.nodes,this,zn,za,V.wk,V.wks]
 have hn':t.args.length=n:=by simp at h;omega
 refine M.rp t.args.length (fun m=>∀j (hj:j<t.args.length),j<m->(t.args[j]).shape=true)
  (fun m=>([(1,.ptr 0 0),(5,.i (1+((t.args.take m).map Ty.size).sum)),(25,.s .ty t.args),(26,.i t.args.length),(27,.i m)],⟨1,[(0,.var t.view)]⟩))
  (by intro j hj h;omega) (M.W rh1) ?_ ?_
 ·intro m hm hP;have hs1:=xd Ty.size t.args m hm;have hs2:=zc Ty.size (List.getElem_mem hm);have hs3:=ya Ty.size t.args (m+1);have hs4:=Ty.nodes_le t.args[m];(repeat' first|refine M.w0 ?_|refine M.c2 (ih _ ?_ ?_) ?_|refine M.cs ?_ ?_<;>intro h|exact M.le|exact M.lt|fail)
  ·have h1:(t.args[m]).shape=false:=by simpa using h
   have:t.shape=false:=by rw[hsh,ul Ty.shape hm h1,Bool.and_false]
   simp[Zpq,Ty.nodes,this,zn,za,V.wk,V.wks]
  ·have hh:(t.args[m]).shape=true:=by simpa using h
   refine⟨rfl,yj (p:=fun t=>Ty.shape t=true) hm hP hh,?_⟩;have e:(1+((((t.args.take (m+1)).map Ty.size).sum:Nat):Int))=1+(((t.args.take m).map Ty.size).sum:Nat)+t.args[m].nodes:=by simp only[Ty.nodes,hh,hs1];simp;omega
   simp only[e];exact(M.W rh1)
 ·intro hP;have:t.shape=true:=by simp only[hsh,hn,hn',Zbu Ty.shape t.args fun j hj=>hP j hj hj];simp
  refine M.w0 ?_;simp[Zpq,Ty.nodes,this,zn,za,hsz',V.wk,V.wks]
end Go.Ab
