/- A part of the proofs of this seat's statements: H1, S1, S2, S3, S4, S5, S6, S7, S8, S9, S10, S11, S12, S13, S14, S15, S16, S17, S18, S19. It has no conditions of its own. -/
import Derived.Test.YthjlnifaijcfdaaGreatDoorA1
import Derived.Test.YthjlnifaijcfdaaGreatDoorRows
import Derived.Test.YthjlnifaijcfdaaGreatDoorD1
import Derived.Test.YthjlnifaijcfdaaGreatDoorA2
namespace Go.Ab
open Go Go.Proofs
def tab : List (TypeId × TI) := [
  (1, ⟨1, [.nilf], .other⟩),
  (2, ⟨1, [.int .i64 0], .int .i64⟩),
  (3, ⟨1, [.int .i64 0], .int .i64⟩),
  (4, ⟨1, [.bool false], .bool⟩),
  (5, ⟨1, [.int .u8 0], .int .u8⟩),
  (7, ⟨4, [.int .i64 0, .int .i64 0, .bool false, .int .u8 0], .strct [(0, 1, false), (1, 1, false), (2, 1, false), (3, 1, false)]⟩),
  (9, ⟨1, [.str ⟨#[]⟩], .str⟩),
  (12, ⟨1, [.int .u64 0], .int .u64⟩),
  (13, ⟨2, [.str ⟨#[]⟩, .int .u64 0], .strct [(0, 1, false), (1, 1, false)]⟩),
  (15, ⟨1, [.nilp], .other⟩),
  (16, ⟨1, [.nilp], .other⟩),
  (17, ⟨1, [.nilp], .other⟩),
  (18, ⟨1, [.nilp], .strct [(0, 1, false)]⟩),
  (20, ⟨1, [.raw .nilIface], .other⟩),
  (21, ⟨1, [.int .i32 0], .int .i32⟩),
  (22, ⟨1, [.slice .nil (.t .int [])], .slc (some .int) 1 8⟩),
  (23, ⟨1, [.nilf], .other⟩),
  (24, ⟨1, [.nilf], .other⟩),
  (25, ⟨1, [.nilp], .other⟩),
  (26, ⟨1, [.nilf], .other⟩),
  (27, ⟨1, [.slice .nil (.t .ty [])], .slc (some .ty) 2 32⟩),
  (28, ⟨2, [.int .i64 0, .slice .nil (.t .ty [])], .strct [(0, 1, false), (1, 1, false)]⟩),
  (29, ⟨2, [.int .i64 0, .slice .nil (.t .ty [])], .strct [(0, 1, false), (1, 1, false)]⟩),
  (30, ⟨1, [.slice .nil (.t .tm [])], .slc (some .tm) 5 72⟩),
  (31, ⟨5, [.int .i64 0, .int .i64 0, .int .i64 0, .slice .nil (.t .ty []), .slice .nil (.t .tm [])], .strct [(0, 1, false), (1, 1, false), (2, 2, true), (4, 1, false)]⟩),
  (32, ⟨5, [.int .i64 0, .int .i64 0, .int .i64 0, .slice .nil (.t .ty []), .slice .nil (.t .tm [])], .strct [(0, 1, false), (1, 1, false), (2, 2, true), (4, 1, false)]⟩),
  (34, ⟨1, [.nilf], .other⟩),
  (35, ⟨1, [.int .i64 0], .int .i64⟩),
  (37, ⟨1, [.nilf], .other⟩),
  (38, ⟨1, [.nilf], .other⟩),
  (39, ⟨1, [.nilf], .other⟩),
  (40, ⟨1, [.slice .nil (.t .vl [])], .slc (some .vl) 4 64⟩),
  (41, ⟨4, [.int .i64 0, .int .i64 0, .slice .nil (.t .int []), .slice .nil (.t .vl [])], .strct [(0, 1, false), (1, 1, false), (2, 1, false), (3, 1, false)]⟩),
  (42, ⟨4, [.int .i64 0, .int .i64 0, .slice .nil (.t .int []), .slice .nil (.t .vl [])], .strct [(0, 1, false), (1, 1, false), (2, 1, false), (3, 1, false)]⟩),
  (44, ⟨1, [.nilf], .other⟩),
  (45, ⟨1, [.nilf], .other⟩),
  (46, ⟨1, [.nilf], .other⟩),
  (47, ⟨1, [.slice .nil (.t .fm [])], .slc (some .fm) 5 88⟩),
  (48, ⟨5, [.int .i64 0, .int .i64 0, .slice .nil (.t .ty []), .slice .nil (.t .tm []), .slice .nil (.t .fm [])], .strct [(0, 1, false), (1, 2, true), (3, 1, false), (4, 1, false)]⟩),
  (49, ⟨5, [.int .i64 0, .int .i64 0, .slice .nil (.t .ty []), .slice .nil (.t .tm []), .slice .nil (.t .fm [])], .strct [(0, 1, false), (1, 2, true), (3, 1, false), (4, 1, false)]⟩),
  (50, ⟨1, [.slice .nil (.t .pf [])], .slc (some .pf) 7 120⟩),
  (51, ⟨7, [.int .i64 0, .int .i64 0, .int .i64 0, .slice .nil (.t .ty []), .slice .nil (.t .tm []), .slice .nil (.t .fm []), .slice .nil (.t .pf [])], .strct [(0, 1, false), (1, 1, false), (2, 2, true), (4, 1, false), (5, 1, false), (6, 1, false)]⟩),
  (52, ⟨7, [.int .i64 0, .int .i64 0, .int .i64 0, .slice .nil (.t .ty []), .slice .nil (.t .tm []), .slice .nil (.t .fm []), .slice .nil (.t .pf [])], .strct [(0, 1, false), (1, 1, false), (2, 2, true), (4, 1, false), (5, 1, false), (6, 1, false)]⟩),
  (54, ⟨1, [.nilf], .other⟩),
  (55, ⟨1, [.nilf], .other⟩),
  (56, ⟨2, [.slice .nil (.t .ty []), .slice .nil (.t .fm [])], .strct [(0, 1, false), (1, 1, false)]⟩),
  (57, ⟨2, [.slice .nil (.t .ty []), .slice .nil (.t .fm [])], .strct [(0, 1, false), (1, 1, false)]⟩),
  (58, ⟨1, [.nilf], .other⟩),
  (60, ⟨1, [.nilf], .other⟩),
  (62, ⟨1, [.nilf], .other⟩),
  (63, ⟨2, [.slice .nil (.t .int []), .int .i64 0], .strct [(0, 1, false), (1, 1, false)]⟩),
  (64, ⟨2, [.slice .nil (.t .int []), .int .i64 0], .strct [(0, 1, false), (1, 1, false)]⟩),
  (65, ⟨1, [.nilf], .other⟩),
  (66, ⟨1, [.nilf], .other⟩),
  (67, ⟨1, [.nilf], .other⟩),
  (69, ⟨1, [.nilf], .other⟩),
  (70, ⟨1, [.nilf], .other⟩),
  (71, ⟨1, [.nilf], .other⟩),
  (72, ⟨1, [.nilf], .other⟩),
  (73, ⟨1, [.nilf], .other⟩),
  (75, ⟨1, [.nilf], .other⟩),
  (76, ⟨1, [.nilf], .other⟩),
  (77, ⟨1, [.nilf], .other⟩),
  (78, ⟨6, [.int .i64 0, .int .i64 0, .slice .nil (.t .ty []), .slice .nil (.t .tm []), .slice .nil (.t .fm []), .slice .nil (.t .int [])], .strct [(0, 5, true), (5, 1, false)]⟩),
  (79, ⟨6, [.int .i64 0, .int .i64 0, .slice .nil (.t .ty []), .slice .nil (.t .tm []), .slice .nil (.t .fm []), .slice .nil (.t .int [])], .strct [(0, 5, true), (5, 1, false)]⟩),
  (81, ⟨1, [.nilf], .other⟩),
  (82, ⟨1, [.nilf], .other⟩),
  (83, ⟨1, [.nilf], .other⟩),
  (84, ⟨1, [.nilf], .other⟩),
  (85, ⟨1, [.nilf], .other⟩),
  (86, ⟨1, [.nilf], .other⟩),
  (87, ⟨1, [.nilf], .other⟩),
  (88, ⟨1, [.nilf], .other⟩),
  (89, ⟨1, [.nilf], .other⟩),
  (90, ⟨1, [.nilf], .other⟩),
  (91, ⟨1, [.nilf], .other⟩),
  (92, ⟨1, [.nilf], .other⟩),
  (93, ⟨1, [.nilf], .other⟩),
  (94, ⟨1, [.nilf], .other⟩),
  (95, ⟨1, [.nilf], .other⟩),
  (96, ⟨1, [.nilf], .other⟩),
  (97, ⟨1, [.nilf], .other⟩),
  (99, ⟨1, [.nilf], .other⟩),
  (100, ⟨1, [.nilf], .other⟩),
  (101, ⟨1, [.nilf], .other⟩),
  (102, ⟨1, [.nilp], .other⟩),
  (103, ⟨3, [.int .i64 0, .int .i64 0, .bool false], .strct [(0, 1, false), (1, 1, false), (2, 1, false)]⟩),
  (104, ⟨3, [.int .i64 0, .int .i64 0, .bool false], .strct [(0, 1, false), (1, 1, false), (2, 1, false)]⟩),
  (105, ⟨1, [.slice .nil (.u 9 [])], .slc none 9 152⟩),
  (106, ⟨9, [.int .i64 0, .slice .nil (.t .int []), .slice .nil (.u 9 []), .int .i64 0, .int .i64 0, .int .i64 0, .slice .nil (.t .ty []), .slice .nil (.t .tm []), .slice .nil (.u 9 [])], .strct [(0, 1, false), (1, 1, false), (2, 1, false), (3, 5, true), (8, 1, false)]⟩),
  (107, ⟨9, [.int .i64 0, .slice .nil (.t .int []), .slice .nil (.u 9 []), .int .i64 0, .int .i64 0, .int .i64 0, .slice .nil (.t .ty []), .slice .nil (.t .tm []), .slice .nil (.u 9 [])], .strct [(0, 1, false), (1, 1, false), (2, 1, false), (3, 5, true), (8, 1, false)]⟩),
  (108, ⟨1, [.nilf], .other⟩),
  (109, ⟨1, [.nilf], .other⟩),
  (110, ⟨1, [.nilf], .other⟩),
  (111, ⟨1, [.nilf], .other⟩),
  (112, ⟨1, [.nilf], .other⟩),
  (113, ⟨3, [.int .i64 0, .slice .nil (.t .ty []), .int .i64 0], .strct [(0, 2, true), (2, 1, false)]⟩),
  (114, ⟨3, [.int .i64 0, .slice .nil (.t .ty []), .int .i64 0], .strct [(0, 2, true), (2, 1, false)]⟩),
  (116, ⟨1, [.slice .nil (.t .sz [])], .slc (some .sz) 3 40⟩),
  (117, ⟨1, [.slice .nil (.t .sz [])], .slc (some .sz) 3 40⟩),
  (118, ⟨1, [.nilf], .other⟩),
  (119, ⟨1, [.nilf], .other⟩),
  (120, ⟨1, [.nilf], .other⟩),
  (122, ⟨1, [.nilf], .other⟩),
  (123, ⟨1, [.nilf], .other⟩),
  (124, ⟨1, [.nilf], .other⟩),
  (125, ⟨3, [.slice .nil (.t .fm []), .slice .nil (.t .ty []), .slice .nil (.t .fm [])], .strct [(0, 1, false), (1, 1, false), (2, 1, false)]⟩),
  (126, ⟨3, [.slice .nil (.t .fm []), .slice .nil (.t .ty []), .slice .nil (.t .fm [])], .strct [(0, 1, false), (1, 1, false), (2, 1, false)]⟩),
  (127, ⟨1, [.nilf], .other⟩),
  (128, ⟨1, [.nilf], .other⟩),
  (129, ⟨1, [.nilf], .other⟩),
  (130, ⟨1, [.nilf], .other⟩),
  (131, ⟨1, [.nilf], .other⟩),
  (133, ⟨1, [.nilf], .other⟩),
  (134, ⟨1, [.nilf], .other⟩),
  (135, ⟨1, [.nilf], .other⟩),
  (136, ⟨1, [.nilf], .other⟩),
  (137, ⟨1, [.nilf], .other⟩),
  (138, ⟨1, [.nilf], .other⟩),
  (139, ⟨1, [.nilf], .other⟩),
  (140, ⟨1, [.nilf], .other⟩),
  (141, ⟨1, [.nilf], .other⟩),
  (142, ⟨1, [.nilf], .other⟩),
  (143, ⟨1, [.nilf], .other⟩),
  (144, ⟨9, [.int .i64 0, .slice .nil (.t .ty []), .int .i64 0, .int .i64 0, .slice .nil (.t .ty []), .int .i64 0, .int .i64 0, .slice .nil (.t .ty []), .int .i64 0], .arr 3 3 true⟩),
  (145, ⟨1, [.nilf], .other⟩),
  (147, ⟨1, [.nilf], .other⟩),
  (148, ⟨1, [.nilf], .other⟩),
  (150, ⟨1, [.nilf], .other⟩),
  (151, ⟨1, [.nilf], .other⟩),
  (152, ⟨1, [.nilf], .other⟩),
  (153, ⟨1, [.nilf], .other⟩),
  (154, ⟨1, [.nilf], .other⟩),
  (155, ⟨1, [.nilf], .other⟩),
  (156, ⟨1, [.nilf], .other⟩),
  (157, ⟨1, [.nilf], .other⟩),
  (158, ⟨1, [.nilf], .other⟩),
  (159, ⟨1, [.nilf], .other⟩),
  (160, ⟨1, [.nilf], .other⟩),
  (161, ⟨1, [.nilf], .other⟩),
  (162, ⟨1, [.nilf], .other⟩),
  (163, ⟨1, [.nilf], .other⟩),
  (164, ⟨1, [.nilf], .other⟩),
  (165, ⟨5, [.int .i64 0, .int .i64 0, .int .i64 0, .bool false, .bool false], .strct [(0, 1, false), (1, 1, false), (2, 1, false), (3, 1, false), (4, 1, false)]⟩),
  (166, ⟨5, [.int .i64 0, .int .i64 0, .int .i64 0, .bool false, .bool false], .strct [(0, 1, false), (1, 1, false), (2, 1, false), (3, 1, false), (4, 1, false)]⟩),
  (168, ⟨1, [.nilf], .other⟩),
  (169, ⟨1, [.nilf], .other⟩),
  (170, ⟨1, [.nilf], .other⟩),
  (171, ⟨1, [.nilf], .other⟩),
  (172, ⟨1, [.nilf], .other⟩),
  (173, ⟨1, [.nilf], .other⟩),
  (174, ⟨1, [.nilf], .other⟩),
  (175, ⟨1, [.nilf], .other⟩),
  (176, ⟨1, [.nilf], .other⟩),
  (177, ⟨1, [.nilf], .other⟩),
  (178, ⟨1, [.nilf], .other⟩),
  (179, ⟨1, [.nilf], .other⟩),
  (180, ⟨1, [.nilf], .other⟩),
  (181, ⟨1, [.nilf], .other⟩),
  (182, ⟨1, [.nilf], .other⟩),
  (183, ⟨1, [.nilf], .other⟩),
  (184, ⟨1, [.nilf], .other⟩),
  (185, ⟨1, [.raw (.map none)], .other⟩),
  (186, ⟨1, [.nilf], .other⟩),
  (187, ⟨1, [.nilf], .other⟩),
  (188, ⟨1, [.nilf], .other⟩),
  (189, ⟨1, [.nilf], .other⟩),
  (190, ⟨1, [.nilf], .other⟩),
  (192, ⟨1, [.nilf], .other⟩),
  (194, ⟨1, [.nilf], .other⟩),
  (195, ⟨1, [.nilf], .other⟩),
  (196, ⟨1, [.nilf], .other⟩),
  (197, ⟨1, [.nilf], .other⟩),
  (198, ⟨14, [.int .i64 0, .int .i64 0, .int .i64 0, .int .i64 0, .int .i64 0, .int .i64 0, .int .i64 0, .int .i64 0, .int .i64 0, .int .i64 0, .int .i64 0, .int .i64 0, .int .i64 0, .int .i64 0], .arr 14 1 false⟩),
  (199, ⟨1, [.nilf], .other⟩),
  (200, ⟨1, [.nilf], .other⟩),
  (201, ⟨1, [.nilf], .other⟩),
  (202, ⟨1, [.nilf], .other⟩),
  (203, ⟨1, [.nilf], .other⟩),
  (204, ⟨1, [.nilf], .other⟩),
  (205, ⟨1, [.nilf], .other⟩),
  (206, ⟨1, [.nilf], .other⟩),
  (207, ⟨1, [.nilf], .other⟩),
  (208, ⟨4, [.nilp, .nilp, .nilp, .str ⟨#[]⟩], .strct [(0, 1, false), (1, 1, false), (2, 1, false), (3, 1, false)]⟩),
  (210, ⟨0, [], .arr 0 1 false⟩),
  (213, ⟨1, [.nilf], .other⟩),
  (214, ⟨1, [.int .u32 0], .int .u32⟩),
  (217, ⟨1, [.nilf], .other⟩),
  (218, ⟨1, [.nilp], .other⟩),
  (221, ⟨11, [.int .u64 0, .int .u64 0, .int .u32 0, .int .u8 0, .int .u8 0, .int .u8 0, .int .u8 0, .nilf, .nilp, .int .i32 0, .int .i32 0], .strct [(0, 1, false), (1, 1, false), (2, 1, false), (3, 1, false), (4, 1, false), (5, 1, false), (6, 1, false), (7, 1, false), (8, 1, false), (9, 1, false), (10, 1, false)]⟩)]

set_option maxRecDepth 100000
theorem tab_ok : tab.all (fun p => tiB Tryz.prog p.1 p.2) = true := by kernel_rfl
def arV : List V := [.i 0, .i 0, .i 1, .i 2, .i 0, .i 1, .i 3, .i 0, .i 2, .i 3, .i 2, .i 1, .i 1, .i 0]
noncomputable def E : Env := ⟨Tryz.prog, [(0, arV)], tab, tab_ok⟩
end Go.Ab
namespace Go.Ab
open Go Go.Proofs
set_option maxRecDepth 100000
set_option linter.all false
theorem mixed : E.P.follows .mixedOrders = true := Tryz.checked.mixed

theorem copyTy_c : ∀ (b : Nat) (t : Ty), t.size ≤ b → b < 1099511627776 → PC E 85 [.agg t.view] (.agg t.view) := by
  intro b
  induction b with
  | zero => intro t h; have := t.size_pos; omega
  | succ b ih =>
  intro t hsz hb
  have hsz' := Ty.size_eq t
  have hlen := lsum_len Ty.size Ty.size_pos t.args
  refine AC.mk Tryz.func85 rfl rfl rfl rfl rfl (Nat.le_of_ble_eq_true rfl) ?_
  repeat' (first | ((with_reducible refine D.nil ?_); refine AX.nilL ?_) | ((with_reducible refine D.load ?_); refine L.ldb U U U U U U ?_) | ((with_reducible refine D.move ?_); refine L.mv U U U ?_) | ((with_reducible refine D.fieldAddr ?_); refine L.fab U U U U U ?_) | ((with_reducible refine D.assign ?_); refine L.asg U U U ?_) | ((with_reducible refine D.call ?_); refine L.lnt U U U U ?_) | ((with_reducible refine D.box ?_); refine L.bx U U U U ?_) | ((with_reducible refine D.alloc ?_); refine L.al U U U ?_) | ((with_reducible refine D.aw ?_); first | refine K.sq (AW.regL ?_) | refine K.sq (K.sq ?_) | refine AW.regL ?_) | with_reducible refine K.tN ?_)
  refine AW.range t.args.length (fun m => True)
    (fun m => ([(1, .ptr 0 0), (2, .ptr 1 0), (3, .slice (.own 2) (.t .ty (t.args.take m))), (7, .s .ty t.args), (8, .i t.args.length), (9, .i m)], ⟨3, [(0, .var t.view), (1, .var [.i 0, .slice .nil (.t .ty [])]), (2, .row)]⟩))
    (by omega) (fun m => rfl) (fun m => rfl) U trivial (Weak.mk [some 0, some 1, none] _ _ _ U U U U (by (repeat' (first | exact trivial | refine And.intro ?_ ?_ | refine ⟨_, U, _, U, ?_⟩ | exact VLe.refl _)); done) (by (repeat' (first | exact trivial | exact Or.inl U | refine And.intro ?_ ?_ | refine ⟨_, U, _, U, _, U, ?_⟩ | exact VLe.refl _)); done)) ?_ ?_
  · intro m hm hP
    have hs2 := lsum_mem Ty.size (List.getElem_mem hm)
    repeat' (first | ((with_reducible refine D.nil ?_); refine AX.nilL ?_) | ((with_reducible refine D.load ?_); first | refine L.ldb U U U U U U ?_ | refine L.lda U U U U U ?_) | ((with_reducible refine D.move ?_); refine L.mv U U U ?_) | ((with_reducible refine D.assign ?_); refine L.asg U U U ?_) | ((with_reducible refine D.call ?_); first | refine L.apt U U U U U U (by first | exact trivial | exact ⟨rfl, trivial⟩) U U (by first | omega | (simp; omega)) ?_ | refine L.c2 (ih _ ?_ ?_) U U U U ?_) | ((with_reducible refine D.alloc ?_); refine L.al U U U ?_) | ((with_reducible refine D.store ?_); refine L.st U U U U U U U U U ?_) | ((with_reducible refine D.indexAddr ?_); refine L.ixt _ U U U U U U U (by assumption) ?_) | ((with_reducible refine D.ax ?_); refine L.bs1 U U U U U U U U ?_) | ((with_reducible refine D.aw ?_); first | refine K.sq (AW.regL ?_) | refine AW.regL ?_) | with_reducible refine K.tN ?_ | with_reducible refine K.bN ?_ | ((with_reducible show @LE.le Nat _ _ _); omega) | ((with_reducible show @LT.lt Nat _ _ _); omega))
    exact ⟨rfl, trivial, (Weak.mk [some 0, some 1, some 4] _ _ _ U U U U (by (repeat' (first | exact trivial | refine And.intro ?_ ?_ | refine ⟨_, U, _, U, ?_⟩ | exact VLe.refl _ | exact VLe.of_eq (by simp [Sto.upd, List.take_append_getElem]))); done) (by (repeat' (first | exact trivial | exact Or.inr ⟨_, U, rfl⟩ | refine And.intro ?_ ?_ | refine ⟨_, U, _, U, _, U, ?_⟩ | exact VLe.refl _)); done))⟩
  · intro hP
    repeat' (first | ((with_reducible refine D.nil ?_); refine AX.nilL ?_) | ((with_reducible refine D.load ?_); refine L.ldb U U U U U U ?_) | ((with_reducible refine D.move ?_); refine L.mv U U U ?_) | ((with_reducible refine D.fieldAddr ?_); refine L.fab U U U U U ?_) | ((with_reducible refine D.store ?_); refine L.st U U U U U U U U U ?_) | ((with_reducible refine D.ax ?_); refine L.bd U U U U U ?_) | ((with_reducible refine D.aw ?_); first | refine K.sq (AW.regL ?_) | refine AW.ret ?_) | with_reducible refine K.tN ?_ | with_reducible refine K.r1 (by with_unfolding_all rfl) (by with_unfolding_all rfl) ?_)
    simp [tupV, V.wk, V.wks, constV, Ty.view, Tm.view]
theorem ownTy_c : ∀ (b : Nat) (t : Ty), t.size ≤ b → b < 1099511627776 → PC E 71 [.agg t.view] (.agg t.view) := by
  intro b
  induction b with
  | zero => intro t h; have := t.size_pos; omega
  | succ b ih =>
  intro t hsz hb
  have hsz' := Ty.size_eq t
  have hlen := lsum_len Ty.size Ty.size_pos t.args
  refine AC.mk Tryz.func71 rfl rfl rfl rfl rfl (Nat.le_of_ble_eq_true rfl) ?_
  repeat' (first | ((with_reducible refine D.nil ?_); refine AX.nilL ?_) | ((with_reducible refine D.load ?_); refine L.ldb U U U U U U ?_) | ((with_reducible refine D.move ?_); refine L.mv U U U ?_) | ((with_reducible refine D.fieldAddr ?_); refine L.fab U U U U U ?_) | ((with_reducible refine D.call ?_); refine L.lnt U U U U ?_) | ((with_reducible refine D.box ?_); refine L.bx U U U U ?_) | ((with_reducible refine D.alloc ?_); refine L.al U U U ?_) | ((with_reducible refine D.store ?_); refine L.st U U U U U U U U U ?_) | ((with_reducible refine D.ax ?_); refine L.bd U U U U U ?_) | ((with_reducible refine D.aw ?_); first | refine K.sq (AW.regL ?_) | refine K.sq (K.sq ?_) | refine AW.regL ?_) | with_reducible refine K.tN ?_)
  refine AW.range t.args.length (fun m => True)
    (fun m => ([(1, .ptr 0 0), (2, .ptr 1 0), (3, .ptr 2 0), (10, .s .ty t.args), (11, .i t.args.length), (12, .i m)], ⟨4, [(0, .var t.view), (1, .var [.i 0, .slice .nil (.t .ty [])]), (2, .var [.i t.kind, .slice (.own 3) (.t .ty (t.args.take m))]), (3, .row)]⟩))
    (by omega) (fun m => rfl) (fun m => rfl) U trivial (Weak.mk [some 0, some 1, some 2, none] _ _ _ U U U U (by (repeat' (first | exact trivial | refine And.intro ?_ ?_ | refine ⟨_, U, _, U, ?_⟩ | exact VLe.refl _)); done) (by (repeat' (first | exact trivial | exact Or.inl U | refine And.intro ?_ ?_ | refine ⟨_, U, _, U, _, U, ?_⟩ | exact VLe.refl _)); done)) ?_ ?_
  · intro m hm hP
    have hs2 := lsum_mem Ty.size (List.getElem_mem hm)
    repeat' (first | ((with_reducible refine D.nil ?_); first | refine AX.nilL ?_ | refine AX.nilD (by kernel_rfl) ?_) | ((with_reducible refine D.load ?_); first | refine L.ldb U U U U U U ?_ | refine L.lda U U U U U ?_) | ((with_reducible refine D.fieldAddr ?_); refine L.fab U U U U U ?_) | ((with_reducible refine D.call ?_); first | refine L.apt U U U U U U (by first | exact trivial | exact ⟨rfl, trivial⟩) U U (by first | omega | (simp; omega)) ?_ | refine L.c2 (ih _ ?_ ?_) U U U U ?_) | ((with_reducible refine D.alloc ?_); refine L.al U U U ?_) | ((with_reducible refine D.store ?_); refine L.st U U U U U U U U U ?_) | ((with_reducible refine D.indexAddr ?_); refine L.ixt _ U U U U U U U (by assumption) ?_) | ((with_reducible refine D.ax ?_); refine L.bs1 U U U U U U U U ?_) | ((with_reducible refine D.aw ?_); first | refine K.sq (AW.regL ?_) | refine AW.regD mixed (by kernel_rfl) ?_) | with_reducible refine K.tN ?_ | with_reducible refine K.bN ?_ | ((with_reducible show @LE.le Nat _ _ _); omega) | ((with_reducible show @LT.lt Nat _ _ _); omega))
    exact ⟨rfl, trivial, (Weak.mk [some 0, some 1, some 2, some 5] _ _ _ U U U U (by (repeat' (first | exact trivial | refine And.intro ?_ ?_ | refine ⟨_, U, _, U, ?_⟩ | exact VLe.refl _)); done) (by (repeat' (first | exact trivial | exact Or.inr ⟨_, U, rfl⟩ | refine And.intro ?_ ?_ | refine ⟨_, U, _, U, _, U, ?_⟩ | exact VLe.refl _ | exact VLe.of_eq (by simp [Sto.upd, List.take_append_getElem]))); done))⟩
  · intro hP
    repeat' (first | ((with_reducible refine D.nil ?_); refine AX.nilL ?_) | ((with_reducible refine D.load ?_); refine L.ldb U U U U U U ?_) | ((with_reducible refine D.store ?_); refine L.st U U U U U U U U U ?_) | ((with_reducible refine D.aw ?_); first | refine K.sq (AW.regL ?_) | refine AW.ret ?_) | with_reducible refine K.tN ?_ | with_reducible refine K.r1 (by with_unfolding_all rfl) (by with_unfolding_all rfl) ?_)
    simp [tupV, V.wk, V.wks, constV, Ty.view, Tm.view]
theorem typeNodes_c : ∀ (b : Nat) (t : Ty), t.size ≤ b → b < 1099511627776 → PC E 168 [.agg t.view] (nodesT t) := by
  intro b
  induction b with
  | zero => intro t h; have := t.size_pos; omega
  | succ b ih =>
  intro t hsz hb
  have hsz' := Ty.size_eq t
  have hlen := lsum_len Ty.size Ty.size_pos t.args
  have hsh := Ty.shape_eq t
  refine AC.mk Tryz.func168 rfl rfl rfl rfl rfl (Nat.le_of_ble_eq_true rfl) ?_
  repeat' (first | ((with_reducible refine D.nil ?_); refine AX.nilL ?_) | ((with_reducible refine D.load ?_); refine L.ldb U U U U U U ?_) | ((with_reducible refine D.fieldAddr ?_); refine L.fab U U U U U ?_) | ((with_reducible refine D.assign ?_); refine L.asg U U U ?_) | ((with_reducible refine D.box ?_); refine L.bx U U U U ?_) | ((with_reducible refine D.aw ?_); first | refine K.sq (AW.regL ?_) | refine K.sq (K.sq ?_) | refine AW.regL ?_) | with_reducible refine K.tN ?_)
  refine AW.cutT (ι := { n : Nat // arT t.kind = some n }) (fun n => ([(1, .ptr 0 0), (4, .i n.1)], ⟨1, [(0, .var t.view)]⟩)) ?_ ?_
  · refine AW.block ?_
    repeat' (first | ((with_reducible refine D.nil ?_); refine AX.nilL ?_) | ((with_reducible refine D.assign ?_); refine L.asg U U U ?_) | ((with_reducible refine D.bin ?_); refine L.bn U U U U U ?_) | ((with_reducible refine D.aw ?_); first | refine K.sq (AW.regL ?_) | refine K.sq (K.sq ?_) | refine AW.regL ?_ | refine AW.condT U ?_ | refine AW.condS U (fun h => ?_) (fun h => ?_) | refine AW.skip ?_ | refine AW.ret ?_) | with_reducible refine K.tN ?_ | with_reducible refine K.bN ?_ | with_reducible refine K.bR ?_ | with_reducible refine K.cR ?_ | with_reducible refine K.r1 (by with_unfolding_all rfl) (by with_unfolding_all rfl) ?_)
    · exact ⟨⟨0, by simp at h; simp [arT, h]⟩, (Weak.mk [some 0] _ _ _ U U U U (by (repeat' (first | exact trivial | refine And.intro ?_ ?_ | refine ⟨_, U, _, U, ?_⟩ | exact VLe.refl _)); done) (by (repeat' (first | exact trivial | refine And.intro ?_ ?_ | refine ⟨_, U, _, U, _, U, ?_⟩ | exact VLe.refl _)); done))⟩
    · exact ⟨⟨0, by simp at h; simp [arT, h]⟩, (Weak.mk [some 0] _ _ _ U U U U (by (repeat' (first | exact trivial | refine And.intro ?_ ?_ | refine ⟨_, U, _, U, ?_⟩ | exact VLe.refl _)); done) (by (repeat' (first | exact trivial | refine And.intro ?_ ?_ | refine ⟨_, U, _, U, _, U, ?_⟩ | exact VLe.refl _)); done))⟩
    · exact ⟨⟨0, by simp at h; simp [arT, h]⟩, (Weak.mk [some 0] _ _ _ U U U U (by (repeat' (first | exact trivial | refine And.intro ?_ ?_ | refine ⟨_, U, _, U, ?_⟩ | exact VLe.refl _)); done) (by (repeat' (first | exact trivial | refine And.intro ?_ ?_ | refine ⟨_, U, _, U, _, U, ?_⟩ | exact VLe.refl _)); done))⟩
    · exact ⟨⟨2, by simp at h; simp [arT, h]⟩, (Weak.mk [some 0] _ _ _ U U U U (by (repeat' (first | exact trivial | refine And.intro ?_ ?_ | refine ⟨_, U, _, U, ?_⟩ | exact VLe.refl _)); done) (by (repeat' (first | exact trivial | refine And.intro ?_ ?_ | refine ⟨_, U, _, U, _, U, ?_⟩ | exact VLe.refl _)); done))⟩
    · exact ⟨⟨2, by simp at h; simp [arT, h]⟩, (Weak.mk [some 0] _ _ _ U U U U (by (repeat' (first | exact trivial | refine And.intro ?_ ?_ | refine ⟨_, U, _, U, ?_⟩ | exact VLe.refl _)); done) (by (repeat' (first | exact trivial | refine And.intro ?_ ?_ | refine ⟨_, U, _, U, _, U, ?_⟩ | exact VLe.refl _)); done))⟩
    · have : t.shape = false := by simp at *; simp [hsh, arT, *]
      simp [nodesT, Ty.nodes, this, tupV, constV, V.wk, V.wks]
  rintro ⟨n, hn⟩
  repeat' (first | ((with_reducible refine D.nil ?_); refine AX.nilL ?_) | ((with_reducible refine D.load ?_); refine L.ldb U U U U U U ?_) | ((with_reducible refine D.move ?_); refine L.mv U U U ?_) | ((with_reducible refine D.fieldAddr ?_); refine L.fab U U U U U ?_) | ((with_reducible refine D.assign ?_); refine L.asg U U U ?_) | ((with_reducible refine D.bin ?_); refine L.bn U U U U U ?_) | ((with_reducible refine D.call ?_); refine L.lnt U U U U ?_) | ((with_reducible refine D.aw ?_); first | refine K.sq (AW.regL ?_) | refine K.sq (K.sq ?_) | refine AW.regL ?_ | refine AW.condS U (fun h => ?_) (fun h => ?_) | refine AW.skip ?_ | refine AW.ret ?_) | with_reducible refine K.tN ?_ | with_reducible refine K.tR ?_ | with_reducible refine K.r1 (by with_unfolding_all rfl) (by with_unfolding_all rfl) ?_)
  · have h1 : ¬ t.args.length = n := by simp at h; omega
    have : t.shape = false := by simp [hsh, hn, h1]
    simp [nodesT, Ty.nodes, this, tupV, constV, V.wk, V.wks]
  have hn' : t.args.length = n := by simp at h; omega
  refine AW.range t.args.length (fun m => ∀ j (hj : j < t.args.length), j < m → (t.args[j]).shape = true)
    (fun m => ([(1, .ptr 0 0), (5, .i (1 + ((t.args.take m).map Ty.size).sum)), (25, .s .ty t.args), (26, .i t.args.length), (27, .i m)], ⟨1, [(0, .var t.view)]⟩))
    (by omega) (fun m => rfl) (fun m => rfl) U (by intro j hj h; omega) (Weak.mk [some 0] _ _ _ U U U U (by (repeat' (first | exact trivial | refine And.intro ?_ ?_ | refine ⟨_, U, _, U, ?_⟩ | exact VLe.refl _)); done) (by (repeat' (first | exact trivial | refine And.intro ?_ ?_ | refine ⟨_, U, _, U, _, U, ?_⟩ | exact VLe.refl _)); done)) ?_ ?_
  · intro m hm hP
    have hs1 := lsum_take Ty.size t.args m hm
    have hs2 := lsum_mem Ty.size (List.getElem_mem hm)
    have hs3 := lsum_take_le Ty.size t.args (m + 1)
    have hs4 := Ty.nodes_le t.args[m]
    repeat' (first | ((with_reducible refine D.nil ?_); refine AX.nilL ?_) | ((with_reducible refine D.load ?_); first | refine L.ldb U U U U U U ?_ | refine L.lda U U U U U ?_) | ((with_reducible refine D.move ?_); refine L.mv U U U ?_) | ((with_reducible refine D.assign ?_); refine L.asg U U U ?_) | ((with_reducible refine D.bin ?_); refine L.ad U U U U (by omega) ?_) | ((with_reducible refine D.call ?_); refine L.c2 (ih _ ?_ ?_) U U U U ?_) | ((with_reducible refine D.extract ?_); refine L.ex U U U U ?_) | ((with_reducible refine D.alloc ?_); refine L.al U U U ?_) | ((with_reducible refine D.store ?_); refine L.st U U U U U U U U U ?_) | ((with_reducible refine D.indexAddr ?_); refine L.ixt _ U U U U U U U (by assumption) ?_) | ((with_reducible refine D.not ?_); refine L.nt U U U ?_) | ((with_reducible refine D.aw ?_); first | refine K.sq (AW.regL ?_) | refine K.sq (K.sq ?_) | refine AW.regL ?_ | refine AW.condS U (fun h => ?_) (fun h => ?_) | refine AW.skip ?_ | refine AW.ret ?_) | with_reducible refine K.tN ?_ | with_reducible refine K.bN ?_ | with_reducible refine K.tR ?_ | with_reducible refine K.bR ?_ | with_reducible refine K.gR ?_ | with_reducible refine K.r1 (by with_unfolding_all rfl) (by with_unfolding_all rfl) ?_ | ((with_reducible show @LE.le Nat _ _ _); omega) | ((with_reducible show @LT.lt Nat _ _ _); omega))
    · have h1 : (t.args[m]).shape = false := by simpa using h
      have : t.shape = false := by rw [hsh, all_not Ty.shape hm h1, Bool.and_false]
      simp [nodesT, Ty.nodes, this, tupV, constV, V.wk, V.wks]
    · have hh : (t.args[m]).shape = true := by simpa using h
      refine ⟨rfl, all_step (p := fun t => Ty.shape t = true) hm hP hh, ?_⟩
      have e : (1 + ((((t.args.take (m + 1)).map Ty.size).sum : Nat) : Int)) = 1 + (((t.args.take m).map Ty.size).sum : Nat) + t.args[m].nodes := by simp only [Ty.nodes, hh, hs1]; simp; omega
      simp only [e]
      exact (Weak.mk [some 0] _ _ _ U U U U (by (repeat' (first | exact trivial | refine And.intro ?_ ?_ | refine ⟨_, U, _, U, ?_⟩ | exact VLe.refl _)); done) (by (repeat' (first | exact trivial | refine And.intro ?_ ?_ | refine ⟨_, U, _, U, _, U, ?_⟩ | exact VLe.refl _)); done))
  · intro hP
    have : t.shape = true := by simp only [hsh, hn, hn', all_of Ty.shape t.args fun j hj => hP j hj hj]; simp
    repeat' (first | ((with_reducible refine D.nil ?_); refine AX.nilL ?_) | ((with_reducible refine D.move ?_); refine L.mv U U U ?_) | ((with_reducible refine D.assign ?_); refine L.asg U U U ?_) | ((with_reducible refine D.aw ?_); first | refine K.sq (AW.regL ?_) | refine AW.ret ?_) | with_reducible refine K.tN ?_ | with_reducible refine K.r1 (by with_unfolding_all rfl) (by with_unfolding_all rfl) ?_)
    simp [nodesT, Ty.nodes, this, tupV, constV, hsz', V.wk, V.wks]
end Go.Ab
namespace Go.Ab
open Go Go.Proofs
set_option maxRecDepth 100000
set_option linter.all false

theorem var_c (i : Int) : PC E 43 [.i i] (.agg (Tm.mk 1 i (.mk 0 []) []).view) := by
  refine AC.mk Tryz.func43 rfl rfl rfl rfl rfl (Nat.le_of_ble_eq_true rfl) ?_
  repeat' (first | ((with_reducible refine D.nil ?_); refine AX.nilL ?_) | ((with_reducible refine D.move ?_); refine L.mv U U U ?_) | ((with_reducible refine D.alloc ?_); refine L.al U U U ?_) | ((with_reducible refine D.store ?_); refine L.st U U U U U U U U U ?_) | ((with_reducible refine D.ax ?_); refine L.bd U U U U U ?_) | ((with_reducible refine D.aw ?_); first | refine K.sq (AW.regL ?_) | refine AW.ret ?_) | with_reducible refine K.tN ?_ | with_reducible refine K.r1 (by with_unfolding_all rfl) (by with_unfolding_all rfl) ?_)
  simp [tupV, V.wk, V.wks, constV, Ty.view, Tm.view]
theorem tvar_c (i : Int) : PC E 164 [.i i] (.agg (Tm.mk 1 i (.mk 0 []) []).view) := by
  refine AC.mk Tryz.func164 rfl rfl rfl rfl rfl (Nat.le_of_ble_eq_true rfl) ?_
  repeat' (first | ((with_reducible refine D.nil ?_); refine AX.nilL ?_) | ((with_reducible refine D.move ?_); refine L.mv U U U ?_) | ((with_reducible refine D.alloc ?_); refine L.al U U U ?_) | ((with_reducible refine D.store ?_); refine L.st U U U U U U U U U ?_) | ((with_reducible refine D.ax ?_); refine L.bd U U U U U ?_) | ((with_reducible refine D.aw ?_); first | refine K.sq (AW.regL ?_) | refine AW.ret ?_) | with_reducible refine K.tN ?_ | with_reducible refine K.r1 (by with_unfolding_all rfl) (by with_unfolding_all rfl) ?_)
  simp [tupV, V.wk, V.wks, constV, Ty.view, Tm.view]
theorem nat_c : PC E 38 [] (.agg (Ty.mk 1 []).view) := by
  refine AC.mk Tryz.func38 rfl rfl rfl rfl rfl (Nat.le_of_ble_eq_true rfl) ?_
  repeat' (first | ((with_reducible refine D.nil ?_); refine AX.nilL ?_) | ((with_reducible refine D.alloc ?_); refine L.al U U U ?_) | ((with_reducible refine D.store ?_); refine L.st U U U U U U U U U ?_) | ((with_reducible refine D.ax ?_); refine L.bd U U U U U ?_) | ((with_reducible refine D.aw ?_); first | refine K.sq (AW.regL ?_) | refine AW.ret ?_) | with_reducible refine K.tN ?_ | with_reducible refine K.r1 (by with_unfolding_all rfl) (by with_unfolding_all rfl) ?_)
  simp [tupV, V.wk, V.wks, constV, Ty.view, Tm.view]
theorem list_c : PC E 39 [] (.agg (Ty.mk 2 []).view) := by
  refine AC.mk Tryz.func39 rfl rfl rfl rfl rfl (Nat.le_of_ble_eq_true rfl) ?_
  repeat' (first | ((with_reducible refine D.nil ?_); refine AX.nilL ?_) | ((with_reducible refine D.alloc ?_); refine L.al U U U ?_) | ((with_reducible refine D.store ?_); refine L.st U U U U U U U U U ?_) | ((with_reducible refine D.ax ?_); refine L.bd U U U U U ?_) | ((with_reducible refine D.aw ?_); first | refine K.sq (AW.regL ?_) | refine AW.ret ?_) | with_reducible refine K.tN ?_ | with_reducible refine K.r1 (by with_unfolding_all rfl) (by with_unfolding_all rfl) ?_)
  simp [tupV, V.wk, V.wks, constV, Ty.view, Tm.view]
theorem unit_c : PC E 40 [] (.agg (Ty.mk 5 []).view) := by
  refine AC.mk Tryz.func40 rfl rfl rfl rfl rfl (Nat.le_of_ble_eq_true rfl) ?_
  repeat' (first | ((with_reducible refine D.nil ?_); refine AX.nilL ?_) | ((with_reducible refine D.alloc ?_); refine L.al U U U ?_) | ((with_reducible refine D.store ?_); refine L.st U U U U U U U U U ?_) | ((with_reducible refine D.ax ?_); refine L.bd U U U U U ?_) | ((with_reducible refine D.aw ?_); first | refine K.sq (AW.regL ?_) | refine AW.ret ?_) | with_reducible refine K.tN ?_ | with_reducible refine K.r1 (by with_unfolding_all rfl) (by with_unfolding_all rfl) ?_)
  simp [tupV, V.wk, V.wks, constV, Ty.view, Tm.view]
theorem two_c (x y : Ty) (hx : x.size < 1099511627776) (hy : y.size < 1099511627776) : PC E 41 [.agg x.view, .agg y.view] (.agg (Ty.mk 3 [x, y]).view) := by
  have h1 := copyTy_c _ x (Nat.le_refl _) hx
  have h2 := copyTy_c _ y (Nat.le_refl _) hy
  refine AC.mk Tryz.func41 rfl rfl rfl rfl rfl (Nat.le_of_ble_eq_true rfl) ?_
  repeat' (first | ((with_reducible refine D.nil ?_); first | refine AX.nilL ?_ | refine AX.nilD (by kernel_rfl) ?_) | ((with_reducible refine D.load ?_); refine L.ldb U U U U U U ?_) | ((with_reducible refine D.call ?_); first | refine L.c2 (h1) U U U U ?_ | refine L.c2 (h2) U U U U ?_) | ((with_reducible refine D.box ?_); refine L.bx U U U U ?_) | ((with_reducible refine D.alloc ?_); refine L.al U U U ?_) | ((with_reducible refine D.store ?_); refine L.st U U U U U U U U U ?_) | ((with_reducible refine D.ax ?_); first | refine L.bd U U U U U ?_ | refine L.bs2 U U U U U U U U U U U U ?_) | ((with_reducible refine D.aw ?_); first | refine K.sq (AW.regL ?_) | refine K.sq (AW.regD mixed (by kernel_rfl) ?_) | refine AW.ret ?_) | with_reducible refine K.tN ?_ | with_reducible refine K.r1 (by with_unfolding_all rfl) (by with_unfolding_all rfl) ?_)
  simp [tupV, V.wk, V.wks, constV, Ty.view, Tm.view]
theorem fun_c (x y : Ty) (hx : x.size < 1099511627776) (hy : y.size < 1099511627776) : PC E 86 [.agg x.view, .agg y.view] (.agg (Ty.mk 4 [x, y]).view) := by
  have h1 := copyTy_c _ x (Nat.le_refl _) hx
  have h2 := copyTy_c _ y (Nat.le_refl _) hy
  refine AC.mk Tryz.func86 rfl rfl rfl rfl rfl (Nat.le_of_ble_eq_true rfl) ?_
  repeat' (first | ((with_reducible refine D.nil ?_); first | refine AX.nilL ?_ | refine AX.nilD (by kernel_rfl) ?_) | ((with_reducible refine D.load ?_); refine L.ldb U U U U U U ?_) | ((with_reducible refine D.call ?_); first | refine L.c2 (h1) U U U U ?_ | refine L.c2 (h2) U U U U ?_) | ((with_reducible refine D.box ?_); refine L.bx U U U U ?_) | ((with_reducible refine D.alloc ?_); refine L.al U U U ?_) | ((with_reducible refine D.store ?_); refine L.st U U U U U U U U U ?_) | ((with_reducible refine D.ax ?_); first | refine L.bd U U U U U ?_ | refine L.bs2 U U U U U U U U U U U U ?_) | ((with_reducible refine D.aw ?_); first | refine K.sq (AW.regL ?_) | refine K.sq (AW.regD mixed (by kernel_rfl) ?_) | refine AW.ret ?_) | with_reducible refine K.tN ?_ | with_reducible refine K.r1 (by with_unfolding_all rfl) (by with_unfolding_all rfl) ?_)
  simp [tupV, V.wk, V.wks, constV, Ty.view, Tm.view]
theorem noType_c (t : Ty) : PC E 157 [.agg t.view] (.bool t.isNo) := by
  refine AC.mk Tryz.func157 rfl rfl rfl rfl rfl (Nat.le_of_ble_eq_true rfl) ?_
  repeat' (first | ((with_reducible refine D.nil ?_); refine AX.nilL ?_) | ((with_reducible refine D.load ?_); first | refine L.ldb U U U U U U ?_ | refine AX.sk U U ?_) | ((with_reducible refine D.move ?_); refine L.mv U U U ?_) | ((with_reducible refine D.fieldAddr ?_); first | refine L.fab U U U U U ?_ | refine AX.sk U U ?_ | ((fail_if_success refine AX.wt U ?_); refine AX.gs U U (fun _ => trivial) (fun h => ?_) (fun h => ?_))) | ((with_reducible refine D.assign ?_); refine L.asg U U U ?_) | ((with_reducible refine D.bin ?_); first | refine L.bn U U U U U ?_ | refine AX.sk U U ?_) | ((with_reducible refine D.call ?_); first | refine L.lnt U U U U ?_ | refine AX.sk U U ?_) | ((with_reducible refine D.box ?_); refine L.bx U U U U ?_) | ((with_reducible refine D.pick ?_); refine L.pk U U U U ?_) | ((with_reducible refine D.aw ?_); first | refine K.sq (AW.regL ?_) | refine AW.ret ?_) | with_reducible refine K.tN ?_ | with_reducible refine K.r1 (by with_unfolding_all rfl) (by with_unfolding_all rfl) ?_)
  all_goals simp_all [tupV, V.wk, V.wks, constV, Ty.isNo]
  rw [Bool.eq_iff_iff]; simp
theorem typed_c (k : Int) : PC E 156 [.i k] (.bool (typedK k)) := by
  refine AC.mk Tryz.func156 rfl rfl rfl rfl rfl (Nat.le_of_ble_eq_true rfl) ?_
  repeat' (first | ((with_reducible refine D.nil ?_); refine AX.nilL ?_) | ((with_reducible refine D.move ?_); first | refine L.mv U U U ?_ | refine AX.sk U U ?_ | ((fail_if_success refine AX.wt U ?_); refine AX.gs U U (fun _ => trivial) (fun h => ?_) (fun h => ?_))) | ((with_reducible refine D.assign ?_); refine L.asg U U U ?_) | ((with_reducible refine D.bin ?_); first | refine L.bn U U U U U ?_ | refine AX.sk U U ?_) | ((with_reducible refine D.pick ?_); refine L.pk U U U U ?_) | ((with_reducible refine D.aw ?_); first | refine K.sq (AW.regL ?_) | refine AW.ret ?_) | with_reducible refine K.tN ?_ | with_reducible refine K.r1 (by with_unfolding_all rfl) (by with_unfolding_all rfl) ?_)
  all_goals simp_all [tupV, V.wk, V.wks, constV, typedK]
theorem within_c (n : Int) : PC E 118 [.i n] (.bool (decide (0 ≤ n ∧ n ≤ 4096))) := by
  refine AC.mk Tryz.func118 rfl rfl rfl rfl rfl (Nat.le_of_ble_eq_true rfl) ?_
  repeat' (first | ((with_reducible refine D.nil ?_); refine AX.nilL ?_) | ((with_reducible refine D.move ?_); first | refine L.mv U U U ?_ | refine AX.sk U U ?_ | ((fail_if_success refine AX.wt U ?_); refine AX.gs U U (fun _ => trivial) (fun h => ?_) (fun h => ?_))) | ((with_reducible refine D.assign ?_); refine L.asg U U U ?_) | ((with_reducible refine D.bin ?_); first | refine L.bn U U U U U ?_ | refine AX.sk U U ?_) | ((with_reducible refine D.pick ?_); refine L.pk U U U U ?_) | ((with_reducible refine D.aw ?_); first | refine K.sq (AW.regL ?_) | refine AW.ret ?_) | with_reducible refine K.tN ?_ | with_reducible refine K.r1 (by with_unfolding_all rfl) (by with_unfolding_all rfl) ?_)
  all_goals simp_all [tupV, V.wk, V.wks, constV]
  omega
theorem checkTy_c (t : Ty) (ht : t.size < 1099511627776) : PC E 129 [.agg t.view] (.tup [.i t.num, .i t.err]) := by
  have h1 := typeNodes_c _ t (Nat.le_refl _) ht
  refine AC.mk Tryz.func129 rfl rfl rfl rfl rfl (Nat.le_of_ble_eq_true rfl) ?_
  repeat' (first | ((with_reducible refine D.nil ?_); refine AX.nilL ?_) | ((with_reducible refine D.load ?_); refine L.ldb U U U U U U ?_) | ((with_reducible refine D.move ?_); refine L.mv U U U ?_) | ((with_reducible refine D.assign ?_); refine L.asg U U U ?_) | ((with_reducible refine D.bin ?_); refine L.bn U U U U U ?_) | ((with_reducible refine D.call ?_); refine L.c2 (h1) U U U U ?_) | ((with_reducible refine D.extract ?_); refine L.ex U U U U ?_) | ((with_reducible refine D.box ?_); refine L.bx U U U U ?_) | ((with_reducible refine D.not ?_); refine L.nt U U U ?_) | ((with_reducible refine D.aw ?_); first | ((with_reducible refine D.sblk ?_); refine K.sq (AW.block ?_)) | refine K.sq (AW.regL ?_) | refine AW.condS U (fun h => ?_) (fun h => ?_) | refine AW.skip ?_ | refine AW.ret ?_) | with_reducible refine K.tN ?_ | with_reducible refine K.bN ?_ | with_reducible refine K.tR ?_ | with_reducible refine K.bR ?_ | with_reducible refine K.r1 (by with_unfolding_all rfl) (by with_unfolding_all rfl) ?_)
  all_goals simp_all [tupV, V.wk, V.wks, constV, Ty.num, Ty.err, Ty.nodes]
  all_goals (first | omega | (split <;> first | omega | simp_all))
theorem arity_c (k : Int) : PC E 155 [.i k] (.tup [.i ((arK k).getD 0), .bool (arK k).isSome]) := by
  refine AC.mk Tryz.func155 rfl rfl rfl rfl rfl (Nat.le_of_ble_eq_true rfl) ?_
  repeat' (first | ((with_reducible refine D.nil ?_); refine AX.nilL ?_) | ((with_reducible refine D.move ?_); first | refine L.mv U U U ?_ | refine AX.sk U U ?_ | ((fail_if_success refine AX.wt U ?_); refine AX.gs U U (fun _ => trivial) (fun h => ?_) (fun h => ?_))) | ((with_reducible refine D.assign ?_); refine L.asg U U U ?_) | ((with_reducible refine D.bin ?_); first | refine L.bn U U U U U ?_ | refine AX.sk U U ?_) | ((with_reducible refine D.pick ?_); refine L.pk U U U U ?_) | ((with_reducible refine D.aw ?_); first | refine K.sq (AW.regL ?_) | refine K.sq (K.sq ?_) | refine AW.regL ?_ | refine AW.condT U ?_ | refine AW.condS U (fun h => ?_) (fun h => ?_) | refine AW.skip ?_ | refine AW.ret ?_) | with_reducible refine K.tN ?_ | with_reducible refine K.tR ?_ | with_reducible refine K.r1 (by with_unfolding_all rfl) (by with_unfolding_all rfl) ?_)
  · have : arK k = none := by simp at h; simp only [arK]; (repeat' rw [if_neg (by omega)])
    simp [this, tupV, V.wk, V.wks, constV]
  · have : arK k = none := by simp at h; simp only [arK]; (repeat' rw [if_neg (by omega)])
    simp [this, tupV, V.wk, V.wks, constV]
  · rename_i h0
    simp at h h0
    have : k = 1 ∨ k = 2 ∨ k = 3 ∨ k = 4 ∨ k = 5 ∨ k = 6 ∨ k = 7 ∨ k = 8 ∨ k = 9 ∨ k = 10 ∨ k = 11 ∨ k = 12 ∨ k = 13 := by omega
    rcases this with rfl | rfl | rfl | rfl | rfl | rfl | rfl | rfl | rfl | rfl | rfl | rfl | rfl
    · refine L.ixa 1 rfl rfl rfl rfl rfl ?_ ?_ rfl ?_
      · decide
      · decide
      repeat' (first | ((with_reducible refine D.nil ?_); refine AX.nilL ?_) | ((with_reducible refine D.load ?_); refine L.lda U U U U U ?_) | ((with_reducible refine D.assign ?_); refine L.asg U U U ?_) | ((with_reducible refine D.aw ?_); refine AW.ret ?_) | with_reducible refine K.tN ?_ | with_reducible refine K.r1 (by with_unfolding_all rfl) (by with_unfolding_all rfl) ?_)
      rfl
    · refine L.ixa 2 rfl rfl rfl rfl rfl ?_ ?_ rfl ?_
      · decide
      · decide
      repeat' (first | ((with_reducible refine D.nil ?_); refine AX.nilL ?_) | ((with_reducible refine D.load ?_); refine L.lda U U U U U ?_) | ((with_reducible refine D.assign ?_); refine L.asg U U U ?_) | ((with_reducible refine D.aw ?_); refine AW.ret ?_) | with_reducible refine K.tN ?_ | with_reducible refine K.r1 (by with_unfolding_all rfl) (by with_unfolding_all rfl) ?_)
      rfl
    · refine L.ixa 3 rfl rfl rfl rfl rfl ?_ ?_ rfl ?_
      · decide
      · decide
      repeat' (first | ((with_reducible refine D.nil ?_); refine AX.nilL ?_) | ((with_reducible refine D.load ?_); refine L.lda U U U U U ?_) | ((with_reducible refine D.assign ?_); refine L.asg U U U ?_) | ((with_reducible refine D.aw ?_); refine AW.ret ?_) | with_reducible refine K.tN ?_ | with_reducible refine K.r1 (by with_unfolding_all rfl) (by with_unfolding_all rfl) ?_)
      rfl
    · refine L.ixa 4 rfl rfl rfl rfl rfl ?_ ?_ rfl ?_
      · decide
      · decide
      repeat' (first | ((with_reducible refine D.nil ?_); refine AX.nilL ?_) | ((with_reducible refine D.load ?_); refine L.lda U U U U U ?_) | ((with_reducible refine D.assign ?_); refine L.asg U U U ?_) | ((with_reducible refine D.aw ?_); refine AW.ret ?_) | with_reducible refine K.tN ?_ | with_reducible refine K.r1 (by with_unfolding_all rfl) (by with_unfolding_all rfl) ?_)
      rfl
    · refine L.ixa 5 rfl rfl rfl rfl rfl ?_ ?_ rfl ?_
      · decide
      · decide
      repeat' (first | ((with_reducible refine D.nil ?_); refine AX.nilL ?_) | ((with_reducible refine D.load ?_); refine L.lda U U U U U ?_) | ((with_reducible refine D.assign ?_); refine L.asg U U U ?_) | ((with_reducible refine D.aw ?_); refine AW.ret ?_) | with_reducible refine K.tN ?_ | with_reducible refine K.r1 (by with_unfolding_all rfl) (by with_unfolding_all rfl) ?_)
      rfl
    · refine L.ixa 6 rfl rfl rfl rfl rfl ?_ ?_ rfl ?_
      · decide
      · decide
      repeat' (first | ((with_reducible refine D.nil ?_); refine AX.nilL ?_) | ((with_reducible refine D.load ?_); refine L.lda U U U U U ?_) | ((with_reducible refine D.assign ?_); refine L.asg U U U ?_) | ((with_reducible refine D.aw ?_); refine AW.ret ?_) | with_reducible refine K.tN ?_ | with_reducible refine K.r1 (by with_unfolding_all rfl) (by with_unfolding_all rfl) ?_)
      rfl
    · refine L.ixa 7 rfl rfl rfl rfl rfl ?_ ?_ rfl ?_
      · decide
      · decide
      repeat' (first | ((with_reducible refine D.nil ?_); refine AX.nilL ?_) | ((with_reducible refine D.load ?_); refine L.lda U U U U U ?_) | ((with_reducible refine D.assign ?_); refine L.asg U U U ?_) | ((with_reducible refine D.aw ?_); refine AW.ret ?_) | with_reducible refine K.tN ?_ | with_reducible refine K.r1 (by with_unfolding_all rfl) (by with_unfolding_all rfl) ?_)
      rfl
    · refine L.ixa 8 rfl rfl rfl rfl rfl ?_ ?_ rfl ?_
      · decide
      · decide
      repeat' (first | ((with_reducible refine D.nil ?_); refine AX.nilL ?_) | ((with_reducible refine D.load ?_); refine L.lda U U U U U ?_) | ((with_reducible refine D.assign ?_); refine L.asg U U U ?_) | ((with_reducible refine D.aw ?_); refine AW.ret ?_) | with_reducible refine K.tN ?_ | with_reducible refine K.r1 (by with_unfolding_all rfl) (by with_unfolding_all rfl) ?_)
      rfl
    · refine L.ixa 9 rfl rfl rfl rfl rfl ?_ ?_ rfl ?_
      · decide
      · decide
      repeat' (first | ((with_reducible refine D.nil ?_); refine AX.nilL ?_) | ((with_reducible refine D.load ?_); refine L.lda U U U U U ?_) | ((with_reducible refine D.assign ?_); refine L.asg U U U ?_) | ((with_reducible refine D.aw ?_); refine AW.ret ?_) | with_reducible refine K.tN ?_ | with_reducible refine K.r1 (by with_unfolding_all rfl) (by with_unfolding_all rfl) ?_)
      rfl
    · refine L.ixa 10 rfl rfl rfl rfl rfl ?_ ?_ rfl ?_
      · decide
      · decide
      repeat' (first | ((with_reducible refine D.nil ?_); refine AX.nilL ?_) | ((with_reducible refine D.load ?_); refine L.lda U U U U U ?_) | ((with_reducible refine D.assign ?_); refine L.asg U U U ?_) | ((with_reducible refine D.aw ?_); refine AW.ret ?_) | with_reducible refine K.tN ?_ | with_reducible refine K.r1 (by with_unfolding_all rfl) (by with_unfolding_all rfl) ?_)
      rfl
    · refine L.ixa 11 rfl rfl rfl rfl rfl ?_ ?_ rfl ?_
      · decide
      · decide
      repeat' (first | ((with_reducible refine D.nil ?_); refine AX.nilL ?_) | ((with_reducible refine D.load ?_); refine L.lda U U U U U ?_) | ((with_reducible refine D.assign ?_); refine L.asg U U U ?_) | ((with_reducible refine D.aw ?_); refine AW.ret ?_) | with_reducible refine K.tN ?_ | with_reducible refine K.r1 (by with_unfolding_all rfl) (by with_unfolding_all rfl) ?_)
      rfl
    · refine L.ixa 12 rfl rfl rfl rfl rfl ?_ ?_ rfl ?_
      · decide
      · decide
      repeat' (first | ((with_reducible refine D.nil ?_); refine AX.nilL ?_) | ((with_reducible refine D.load ?_); refine L.lda U U U U U ?_) | ((with_reducible refine D.assign ?_); refine L.asg U U U ?_) | ((with_reducible refine D.aw ?_); refine AW.ret ?_) | with_reducible refine K.tN ?_ | with_reducible refine K.r1 (by with_unfolding_all rfl) (by with_unfolding_all rfl) ?_)
      rfl
    · refine L.ixa 13 rfl rfl rfl rfl rfl ?_ ?_ rfl ?_
      · decide
      · decide
      repeat' (first | ((with_reducible refine D.nil ?_); refine AX.nilL ?_) | ((with_reducible refine D.load ?_); refine L.lda U U U U U ?_) | ((with_reducible refine D.assign ?_); refine L.asg U U U ?_) | ((with_reducible refine D.aw ?_); refine AW.ret ?_) | with_reducible refine K.tN ?_ | with_reducible refine K.r1 (by with_unfolding_all rfl) (by with_unfolding_all rfl) ?_)
      rfl
end Go.Ab
namespace Go.Ab
open Go Go.Proofs
set_option maxRecDepth 100000
set_option linter.all false

theorem copyTm_c : ∀ (b : Nat) (t : Tm), t.full ≤ b → b < 1099511627776 → PC E 59 [.agg t.view] (.agg t.view) := by
  intro b
  induction b with
  | zero => intro t h; have := t.full_pos; omega
  | succ b ih =>
  intro t hsz hb
  have hsz' := Tm.full_eq t
  have hlen := lsum_len Tm.full Tm.full_pos t.args
  have hty := copyTy_c _ t.ty (Nat.le_refl _) (by omega)
  refine AC.mk Tryz.func59 rfl rfl rfl rfl rfl (Nat.le_of_ble_eq_true rfl) ?_
  repeat' (first | ((with_reducible refine D.nil ?_); refine AX.nilL ?_) | ((with_reducible refine D.load ?_); refine L.ldb U U U U U U ?_) | ((with_reducible refine D.move ?_); refine L.mv U U U ?_) | ((with_reducible refine D.fieldAddr ?_); refine L.fab U U U U U ?_) | ((with_reducible refine D.assign ?_); refine L.asg U U U ?_) | ((with_reducible refine D.call ?_); refine L.lnt U U U U ?_) | ((with_reducible refine D.box ?_); refine L.bx U U U U ?_) | ((with_reducible refine D.alloc ?_); refine L.al U U U ?_) | ((with_reducible refine D.aw ?_); first | refine K.sq (AW.regL ?_) | refine K.sq (K.sq ?_) | refine AW.regL ?_) | with_reducible refine K.tN ?_)
  refine AW.range t.args.length (fun m => True)
    (fun m => ([(1, .ptr 0 0), (2, .ptr 1 0), (3, .slice (.own 2) (.t .tm (t.args.take m))), (7, .s .tm t.args), (8, .i t.args.length), (9, .i m)], ⟨3, [(0, .var t.view), (1, .var [.i 0, .i 0, .i 0, .slice .nil (.t .ty []), .slice .nil (.t .tm [])]), (2, .row)]⟩))
    (by omega) (fun m => rfl) (fun m => rfl) U trivial (Weak.mk [some 0, some 1, none] _ _ _ U U U U (by (repeat' (first | exact trivial | refine And.intro ?_ ?_ | refine ⟨_, U, _, U, ?_⟩ | exact VLe.refl _)); done) (by (repeat' (first | exact trivial | exact Or.inl U | refine And.intro ?_ ?_ | refine ⟨_, U, _, U, _, U, ?_⟩ | exact VLe.refl _)); done)) ?_ ?_
  · intro m hm hP
    have hs2 := lsum_mem Tm.full (List.getElem_mem hm)
    repeat' (first | ((with_reducible refine D.nil ?_); refine AX.nilL ?_) | ((with_reducible refine D.load ?_); first | refine L.ldb U U U U U U ?_ | refine L.lda U U U U U ?_) | ((with_reducible refine D.move ?_); refine L.mv U U U ?_) | ((with_reducible refine D.assign ?_); refine L.asg U U U ?_) | ((with_reducible refine D.call ?_); first | refine L.apt U U U U U U (by first | exact trivial | exact ⟨rfl, trivial⟩) U U (by first | omega | (simp; omega)) ?_ | refine L.c2 (ih _ ?_ ?_) U U U U ?_) | ((with_reducible refine D.alloc ?_); refine L.al U U U ?_) | ((with_reducible refine D.store ?_); refine L.st U U U U U U U U U ?_) | ((with_reducible refine D.indexAddr ?_); refine L.ixt _ U U U U U U U (by assumption) ?_) | ((with_reducible refine D.ax ?_); refine L.bs1 U U U U U U U U ?_) | ((with_reducible refine D.aw ?_); first | refine K.sq (AW.regL ?_) | refine AW.regL ?_) | with_reducible refine K.tN ?_ | with_reducible refine K.bN ?_ | ((with_reducible show @LE.le Nat _ _ _); omega) | ((with_reducible show @LT.lt Nat _ _ _); omega))
    exact ⟨rfl, trivial, (Weak.mk [some 0, some 1, some 4] _ _ _ U U U U (by (repeat' (first | exact trivial | refine And.intro ?_ ?_ | refine ⟨_, U, _, U, ?_⟩ | exact VLe.refl _ | exact VLe.of_eq (by simp [Sto.upd, List.take_append_getElem]))); done) (by (repeat' (first | exact trivial | exact Or.inr ⟨_, U, rfl⟩ | refine And.intro ?_ ?_ | refine ⟨_, U, _, U, _, U, ?_⟩ | exact VLe.refl _)); done))⟩
  · intro hP
    repeat' (first | ((with_reducible refine D.nil ?_); refine AX.nilD (by kernel_rfl) ?_) | ((with_reducible refine D.load ?_); refine L.ldb U U U U U U ?_) | ((with_reducible refine D.move ?_); refine L.mv U U U ?_) | ((with_reducible refine D.fieldAddr ?_); refine L.fab U U U U U ?_) | ((with_reducible refine D.call ?_); refine L.c2 (hty) U U U U ?_) | ((with_reducible refine D.store ?_); refine L.st U U U U U U U U U ?_) | ((with_reducible refine D.ax ?_); refine L.bd U U U U U ?_) | ((with_reducible refine D.aw ?_); first | refine K.sq (AW.regD mixed (by kernel_rfl) ?_) | refine AW.ret ?_) | with_reducible refine K.tN ?_ | with_reducible refine K.r1 (by with_unfolding_all rfl) (by with_unfolding_all rfl) ?_)
    simp [tupV, V.wk, V.wks, constV, Ty.view, Tm.view]
theorem n_c (k : Int) (l : List Tm) (hl : (l.map Tm.full).sum < 1099511627776) : PC E 45 [.i k, .s .tm l] (.agg (Tm.mk k 0 (.mk 0 []) l).view) := by
  have hlen := lsum_len Tm.full Tm.full_pos l
  refine AC.mk Tryz.func45 rfl rfl rfl rfl rfl (Nat.le_of_ble_eq_true rfl) ?_
  repeat' (first | ((with_reducible refine D.nil ?_); refine AX.nilL ?_) | ((with_reducible refine D.move ?_); refine L.mv U U U ?_) | ((with_reducible refine D.assign ?_); refine L.asg U U U ?_) | ((with_reducible refine D.call ?_); refine L.lnt U U U U ?_) | ((with_reducible refine D.alloc ?_); refine L.al U U U ?_) | ((with_reducible refine D.aw ?_); first | refine K.sq (AW.regL ?_) | refine K.sq (K.sq ?_) | refine AW.regL ?_) | with_reducible refine K.tN ?_)
  refine AW.range l.length (fun m => True)
    (fun m => ([(0, .i k), (4, .ptr 0 0), (5, .slice (.own 1) (.t .tm (l.take m))), (8, .s .tm l), (9, .i l.length), (10, .i m)], ⟨2, [(0, .var [.i 0, .i 0, .i 0, .slice .nil (.t .ty []), .slice .nil (.t .tm [])]), (1, .row)]⟩))
    (by omega) (fun m => rfl) (fun m => rfl) U trivial (Weak.mk [some 0, none] _ _ _ U U U U (by (repeat' (first | exact trivial | refine And.intro ?_ ?_ | refine ⟨_, U, _, U, ?_⟩ | exact VLe.refl _)); done) (by (repeat' (first | exact trivial | exact Or.inl U | refine And.intro ?_ ?_ | refine ⟨_, U, _, U, _, U, ?_⟩ | exact VLe.refl _)); done)) ?_ ?_
  · intro m hm hP
    have hs2 := lsum_mem Tm.full (List.getElem_mem hm)
    repeat' (first | ((with_reducible refine D.nil ?_); refine AX.nilL ?_) | ((with_reducible refine D.load ?_); first | refine L.ldb U U U U U U ?_ | refine L.lda U U U U U ?_) | ((with_reducible refine D.move ?_); refine L.mv U U U ?_) | ((with_reducible refine D.assign ?_); refine L.asg U U U ?_) | ((with_reducible refine D.call ?_); first | refine L.apt U U U U U U (by first | exact trivial | exact ⟨rfl, trivial⟩) U U (by first | omega | (simp; omega)) ?_ | refine L.c2 (copyTm_c _ _ (Nat.le_refl _) ?_) U U U U ?_) | ((with_reducible refine D.alloc ?_); refine L.al U U U ?_) | ((with_reducible refine D.store ?_); refine L.st U U U U U U U U U ?_) | ((with_reducible refine D.indexAddr ?_); refine L.ixt _ U U U U U U U (by assumption) ?_) | ((with_reducible refine D.ax ?_); refine L.bs1 U U U U U U U U ?_) | ((with_reducible refine D.aw ?_); first | refine K.sq (AW.regL ?_) | refine AW.regL ?_) | with_reducible refine K.tN ?_ | with_reducible refine K.bN ?_ | ((with_reducible show @LT.lt Nat _ _ _); omega))
    exact ⟨rfl, trivial, (Weak.mk [some 0, some 3] _ _ _ U U U U (by (repeat' (first | exact trivial | refine And.intro ?_ ?_ | refine ⟨_, U, _, U, ?_⟩ | exact VLe.refl _ | exact VLe.of_eq (by simp [Sto.upd, List.take_append_getElem]))); done) (by (repeat' (first | exact trivial | exact Or.inr ⟨_, U, rfl⟩ | refine And.intro ?_ ?_ | refine ⟨_, U, _, U, _, U, ?_⟩ | exact VLe.refl _)); done))⟩
  · intro hP
    repeat' (first | ((with_reducible refine D.nil ?_); refine AX.nilL ?_) | ((with_reducible refine D.move ?_); refine L.mv U U U ?_) | ((with_reducible refine D.store ?_); refine L.st U U U U U U U U U ?_) | ((with_reducible refine D.ax ?_); refine L.bd U U U U U ?_) | ((with_reducible refine D.aw ?_); first | refine K.sq (AW.regL ?_) | refine AW.ret ?_) | with_reducible refine K.tN ?_ | with_reducible refine K.r1 (by with_unfolding_all rfl) (by with_unfolding_all rfl) ?_)
    simp [tupV, V.wk, V.wks, constV, Ty.view, Tm.view]
theorem t_c (k : Int) (s : Ty) (l : List Tm) (hl : (l.map Tm.full).sum < 1099511627776) (hs : s.size < 1099511627776) : PC E 46 [.i k, .agg s.view, .s .tm l] (.agg (Tm.mk k 0 s l).view) := by
  have h1 := n_c k l hl
  have h2 := copyTy_c _ s (Nat.le_refl _) hs
  refine AC.mk Tryz.func46 rfl rfl rfl rfl rfl (Nat.le_of_ble_eq_true rfl) ?_
  repeat' (first | ((with_reducible refine D.nil ?_); refine AX.nilL ?_) | ((with_reducible refine D.load ?_); refine L.ldb U U U U U U ?_) | ((with_reducible refine D.move ?_); refine L.mv U U U ?_) | ((with_reducible refine D.fieldAddr ?_); refine L.fab U U U U U ?_) | ((with_reducible refine D.call ?_); first | refine L.c2 (h1) U U U U ?_ | refine L.c2 (h2) U U U U ?_) | ((with_reducible refine D.box ?_); refine L.bx U U U U ?_) | ((with_reducible refine D.alloc ?_); refine L.al U U U ?_) | ((with_reducible refine D.store ?_); refine L.st U U U U U U U U U ?_) | ((with_reducible refine D.aw ?_); first | refine K.sq (AW.regL ?_) | refine AW.ret ?_) | with_reducible refine K.tN ?_ | with_reducible refine K.r1 (by with_unfolding_all rfl) (by with_unfolding_all rfl) ?_)
  simp [tupV, V.wk, V.wks, constV, Ty.view, Tm.view]
theorem Ty.ok_err (t : Ty) : t.ok = (t.err == 0) := by
  simp only [Ty.ok, Ty.err]
  cases t.shape
  · simp
  · by_cases h : t.size ≤ 64
    · have : ¬ t.size > 64 := by omega
      simp [h, this]
    · have : t.size > 64 := by omega
      simp [h, this]
theorem Tm.head_eq (t : Tm) : t.head = (!(!(arK t.kind).isSome) && !((t.args.length : Int) != (((arK t.kind).getD 0 : Nat) : Int)) && !decide (t.index < 0) && (!(t.index != 0) || !(t.kind != 1)) && (bif typedK t.kind then !(t.ty.err != 0) else !(!t.ty.isNo))) := by
  simp only [Tm.head, Ty.ok_err]
  cases hk : arK t.kind with
  | none => simp
  | some n =>
    have h1 : (t.args.length == n) = !((t.args.length : Int) != ((n : Nat) : Int)) := by rw [Bool.eq_iff_iff]; simp; omega
    have h2 : decide (0 ≤ t.index) = !decide (t.index < 0) := by rw [Bool.eq_iff_iff]; simp
    simp [h1, h2, bne]
theorem termNodes_c : ∀ (b : Nat) (t : Tm), t.full ≤ b → b < 1099511627776 → PC E 116 [.agg t.view] (nodesM t) := by
  intro b
  induction b with
  | zero => intro t h; have := t.full_pos; omega
  | succ b ih =>
  intro t hsz hb
  have hsz' := Tm.full_eq t
  have hszz := Tm.size_eq t
  have hle := Tm.size_le_full t
  have hlen := lsum_len Tm.full Tm.full_pos t.args
  have hsh := Tm.shape_eq t
  have h1 := arity_c t.kind
  have h2 := typed_c t.kind
  have h3 := noType_c t.ty
  have h4 := checkTy_c t.ty (by omega)
  have bad : t.shape = false → (V.tup [.i 0, .bool false]) = nodesM t := fun h => by simp [nodesM, Tm.nodes, h]
  refine AC.mk Tryz.func116 rfl rfl rfl rfl rfl (Nat.le_of_ble_eq_true rfl) ?_
  repeat' (first | ((with_reducible refine D.nil ?_); refine AX.nilL ?_) | ((with_reducible refine D.load ?_); first | refine L.ldb U U U U U U ?_ | refine AX.sk U U ?_) | ((with_reducible refine D.move ?_); first | refine L.mv U U U ?_ | refine AX.sk U U ?_) | ((with_reducible refine D.fieldAddr ?_); first | refine L.fab U U U U U ?_ | refine AX.sk U U ?_ | ((fail_if_success refine AX.wt U ?_); refine AX.gs U U (fun _ => trivial) (fun h => ?_) (fun h => ?_))) | ((with_reducible refine D.assign ?_); refine L.asg U U U ?_) | ((with_reducible refine D.bin ?_); first | refine L.bn U U U U U ?_ | refine AX.sk U U ?_) | ((with_reducible refine D.call ?_); first | refine L.lnt U U U U ?_ | refine L.c2 (h1) U U U U ?_ | refine L.c2 (h2) U U U U ?_ | refine L.c2 (h3) U U U U ?_ | refine L.c2 (h4) U U U U ?_ | refine AX.sk U U ?_) | ((with_reducible refine D.extract ?_); refine L.ex U U U U ?_) | ((with_reducible refine D.box ?_); refine L.bx U U U U ?_) | ((with_reducible refine D.not ?_); refine L.nt U U U ?_) | ((with_reducible refine D.pick ?_); first | refine L.pk U U U U ?_ | refine AX.sk U U ?_) | ((with_reducible refine D.aw ?_); first | refine K.sq (AW.regL ?_) | refine K.sq (K.sq ?_) | refine AW.regL ?_ | refine AW.condT U ?_ | refine AW.condF U ?_ | refine AW.condS U (fun h => ?_) (fun h => ?_) | refine AW.skip ?_ | refine AW.ret ?_) | with_reducible refine K.tN ?_ | with_reducible refine K.tR ?_ | with_reducible refine K.r1 (by with_unfolding_all rfl) (by with_unfolding_all rfl) ?_)
  all_goals first
    | (have hd : t.head = false := by rw [t.head_eq]; simp_all
       have : t.shape = false := by rw [hsh, hd, Bool.false_and]
       simp [Tm.nodes, this, tupV, constV, V.wk, V.wks]; done)
    | (have hd : t.head = true := by rw [t.head_eq]; simp_all
       refine AW.range t.args.length (fun m => ∀ j (hj : j < t.args.length), j < m → (t.args[j]).shape = true)
         (fun m => ([(1, .ptr 0 0), (8, .i (1 + ((t.args.take m).map Tm.size).sum)), (59, .s .tm t.args), (60, .i t.args.length), (61, .i m)], ⟨1, [(0, .var t.view)]⟩))
         (by omega) (fun m => rfl) (fun m => rfl) U (by intro j hj h; omega) (Weak.mk [some 0] _ _ _ U U U U (by (repeat' (first | exact trivial | refine And.intro ?_ ?_ | refine ⟨_, U, _, U, ?_⟩ | exact VLe.refl _)); done) (by (repeat' (first | exact trivial | refine And.intro ?_ ?_ | refine ⟨_, U, _, U, _, U, ?_⟩ | exact VLe.refl _)); done)) ?_ ?_
       · intro m hm hP
         have hs1 := lsum_take Tm.size t.args m hm
         have hs2 := lsum_mem Tm.full (List.getElem_mem hm)
         have hs3 := lsum_take_le Tm.size t.args (m + 1)
         have hs4 := Tm.nodes_le t.args[m]
         have hs5 := Tm.size_le_full t.args[m]
         repeat' (first | ((with_reducible refine D.nil ?_); refine AX.nilL ?_) | ((with_reducible refine D.load ?_); first | refine L.ldb U U U U U U ?_ | refine L.lda U U U U U ?_) | ((with_reducible refine D.move ?_); refine L.mv U U U ?_) | ((with_reducible refine D.assign ?_); refine L.asg U U U ?_) | ((with_reducible refine D.bin ?_); refine L.ad U U U U (by omega) ?_) | ((with_reducible refine D.call ?_); refine L.c2 (ih _ ?_ ?_) U U U U ?_) | ((with_reducible refine D.extract ?_); refine L.ex U U U U ?_) | ((with_reducible refine D.alloc ?_); refine L.al U U U ?_) | ((with_reducible refine D.store ?_); refine L.st U U U U U U U U U ?_) | ((with_reducible refine D.indexAddr ?_); refine L.ixt _ U U U U U U U (by assumption) ?_) | ((with_reducible refine D.not ?_); refine L.nt U U U ?_) | ((with_reducible refine D.aw ?_); first | refine K.sq (AW.regL ?_) | refine K.sq (K.sq ?_) | refine AW.regL ?_ | refine AW.condS U (fun h => ?_) (fun h => ?_) | refine AW.skip ?_ | refine AW.ret ?_) | with_reducible refine K.tN ?_ | with_reducible refine K.bN ?_ | with_reducible refine K.tR ?_ | with_reducible refine K.bR ?_ | with_reducible refine K.gR ?_ | with_reducible refine K.r1 (by with_unfolding_all rfl) (by with_unfolding_all rfl) ?_ | ((with_reducible show @LE.le Nat _ _ _); omega) | ((with_reducible show @LT.lt Nat _ _ _); omega))
         · have h1 : (t.args[m]).shape = false := by simpa using h
           have : t.shape = false := by rw [hsh, all_not Tm.shape hm h1, Bool.and_false]
           simp [Tm.nodes, this, tupV, constV, V.wk, V.wks]
         · have hh : (t.args[m]).shape = true := by simpa using h
           refine ⟨rfl, all_step (p := fun t => Tm.shape t = true) hm hP hh, ?_⟩
           have e : (1 + ((((t.args.take (m + 1)).map Tm.size).sum : Nat) : Int)) = 1 + (((t.args.take m).map Tm.size).sum : Nat) + t.args[m].nodes := by simp only [Tm.nodes, hh, hs1]; simp; omega
           simp only [e]
           exact (Weak.mk [some 0] _ _ _ U U U U (by (repeat' (first | exact trivial | refine And.intro ?_ ?_ | refine ⟨_, U, _, U, ?_⟩ | exact VLe.refl _)); done) (by (repeat' (first | exact trivial | refine And.intro ?_ ?_ | refine ⟨_, U, _, U, _, U, ?_⟩ | exact VLe.refl _)); done))
       · intro hP
         have : t.shape = true := by simp only [hsh, hd, all_of Tm.shape t.args fun j hj => hP j hj hj]; simp
         repeat' (first | ((with_reducible refine D.nil ?_); refine AX.nilL ?_) | ((with_reducible refine D.move ?_); refine L.mv U U U ?_) | ((with_reducible refine D.assign ?_); refine L.asg U U U ?_) | ((with_reducible refine D.aw ?_); first | refine K.sq (AW.regL ?_) | refine AW.ret ?_) | with_reducible refine K.tN ?_ | with_reducible refine K.r1 (by with_unfolding_all rfl) (by with_unfolding_all rfl) ?_)
         simp [Tm.nodes, this, tupV, constV, hszz, V.wk, V.wks])
theorem checkTm_c (t : Tm) (ht : t.full < 1099511627776) : PC E 91 [.agg t.view] (.tup [.i t.num, .i t.err]) := by
  have h1 := termNodes_c _ t (Nat.le_refl _) ht
  refine AC.mk Tryz.func91 rfl rfl rfl rfl rfl (Nat.le_of_ble_eq_true rfl) ?_
  repeat' (first | ((with_reducible refine D.nil ?_); refine AX.nilL ?_) | ((with_reducible refine D.load ?_); refine L.ldb U U U U U U ?_) | ((with_reducible refine D.move ?_); refine L.mv U U U ?_) | ((with_reducible refine D.assign ?_); refine L.asg U U U ?_) | ((with_reducible refine D.bin ?_); refine L.bn U U U U U ?_) | ((with_reducible refine D.call ?_); refine L.c2 (h1) U U U U ?_) | ((with_reducible refine D.extract ?_); refine L.ex U U U U ?_) | ((with_reducible refine D.box ?_); refine L.bx U U U U ?_) | ((with_reducible refine D.not ?_); refine L.nt U U U ?_) | ((with_reducible refine D.aw ?_); first | ((with_reducible refine D.sblk ?_); refine K.sq (AW.block ?_)) | refine K.sq (AW.regL ?_) | refine AW.condS U (fun h => ?_) (fun h => ?_) | refine AW.skip ?_ | refine AW.ret ?_) | with_reducible refine K.tN ?_ | with_reducible refine K.bN ?_ | with_reducible refine K.tR ?_ | with_reducible refine K.bR ?_ | with_reducible refine K.r1 (by with_unfolding_all rfl) (by with_unfolding_all rfl) ?_)
  all_goals simp_all [tupV, V.wk, V.wks, constV, Tm.num, Tm.err, Tm.nodes]
  all_goals (first | omega | (split <;> first | omega | simp_all))
theorem size_c (t : Tm) (ht : t.full < 1099511627776) : PC E 117 [.agg t.view] (.tup [.i t.num, .i t.err]) := by
  have h1 := checkTm_c t ht
  refine AC.mk Tryz.func117 rfl rfl rfl rfl rfl (Nat.le_of_ble_eq_true rfl) ?_
  repeat' (first | ((with_reducible refine D.nil ?_); refine AX.nilL ?_) | ((with_reducible refine D.load ?_); refine L.ldb U U U U U U ?_) | ((with_reducible refine D.assign ?_); refine L.asg U U U ?_) | ((with_reducible refine D.call ?_); refine L.c2 (h1) U U U U ?_) | ((with_reducible refine D.extract ?_); refine L.ex U U U U ?_) | ((with_reducible refine D.box ?_); refine L.bx U U U U ?_) | ((with_reducible refine D.aw ?_); first | refine K.sq (AW.regL ?_) | refine AW.ret ?_) | with_reducible refine K.tN ?_ | with_reducible refine K.r1 (by with_unfolding_all rfl) (by with_unfolding_all rfl) ?_)
  simp [tupV, V.wk, V.wks, constV, Ty.view, Tm.view]
theorem check_c (t : Tm) (ht : t.full < 1099511627776) : PC E 52 [.agg t.view] (.i t.err) := by
  have h1 := checkTm_c t ht
  refine AC.mk Tryz.func52 rfl rfl rfl rfl rfl (Nat.le_of_ble_eq_true rfl) ?_
  repeat' (first | ((with_reducible refine D.nil ?_); refine AX.nilL ?_) | ((with_reducible refine D.load ?_); refine L.ldb U U U U U U ?_) | ((with_reducible refine D.move ?_); refine L.mv U U U ?_) | ((with_reducible refine D.assign ?_); refine L.asg U U U ?_) | ((with_reducible refine D.call ?_); refine L.c2 (h1) U U U U ?_) | ((with_reducible refine D.extract ?_); refine L.ex U U U U ?_) | ((with_reducible refine D.box ?_); refine L.bx U U U U ?_) | ((with_reducible refine D.aw ?_); first | refine K.sq (AW.regL ?_) | refine AW.ret ?_) | with_reducible refine K.tN ?_ | with_reducible refine K.r1 (by with_unfolding_all rfl) (by with_unfolding_all rfl) ?_)
  simp [tupV, V.wk, V.wks, constV, Ty.view, Tm.view]
end Go.Ab
namespace Go.Ab
open Go Go.Proofs
set_option maxRecDepth 100000
set_option linter.all false
theorem sameTy_c : ∀ (n : Nat) (x y : Ty), x.size ≤ n → n < 1099511627776 → PC E 35 [.agg x.view, .agg y.view] (.bool (decide (x = y))) := by
  intro n
  induction n with
  | zero => intro x y h; have := x.size_pos; omega
  | succ n ih =>
  intro x y hsz hb
  have hsz' := Ty.size_eq x
  have hlen := lsum_len Ty.size Ty.size_pos x.args
  have heq := Ty.eq_iff x y
  refine AC.mk Tryz.func35 rfl rfl rfl rfl rfl (Nat.le_of_ble_eq_true rfl) ?_
  repeat' (first | ((with_reducible refine D.nil ?_); refine AX.nilL ?_) | ((with_reducible refine D.load ?_); first | refine L.ldb U U U U U U ?_ | refine AX.sk U U ?_) | ((with_reducible refine D.move ?_); refine L.mv U U U ?_) | ((with_reducible refine D.fieldAddr ?_); first | refine L.fab U U U U U ?_ | refine AX.sk U U ?_ | ((fail_if_success refine AX.wt U ?_); refine AX.gs U U (fun _ => trivial) (fun h => ?_) (fun h => ?_))) | ((with_reducible refine D.assign ?_); refine L.asg U U U ?_) | ((with_reducible refine D.bin ?_); first | refine L.bn U U U U U ?_ | refine AX.sk U U ?_) | ((with_reducible refine D.call ?_); first | refine L.lnt U U U U ?_ | refine AX.sk U U ?_) | ((with_reducible refine D.box ?_); refine L.bx U U U U ?_) | ((with_reducible refine D.pick ?_); refine L.pk U U U U ?_) | ((with_reducible refine D.aw ?_); first | refine K.sq (AW.regL ?_) | refine K.sq (K.sq ?_) | refine AW.regL ?_ | refine AW.condT U ?_ | refine AW.condS U (fun h => ?_) (fun h => ?_) | refine AW.skip ?_ | refine AW.ret ?_) | with_reducible refine K.tN ?_ | with_reducible refine K.tR ?_ | with_reducible refine K.r1 (by with_unfolding_all rfl) (by with_unfolding_all rfl) ?_)
  · have : ¬ x = y := by rw [heq]; simp_all
    simp [this, tupV, constV, V.wk, V.wks]
  · have : ¬ x = y := by rintro rfl; simp at h
    simp [this, tupV, constV, V.wk, V.wks]
  · rename_i hk
    simp at h hk
    have hl : x.args.length = y.args.length := by omega
    refine AW.range x.args.length (fun m => ∀ j (hj : j < x.args.length), j < m → x.args[j] = y.args[j]'(by omega))
      (fun m => ([(2, .ptr 0 0), (3, .ptr 1 0), (22, .i x.args.length), (23, .i m)], ⟨2, [(0, .var x.view), (1, .var y.view)]⟩))
      (by omega) (fun m => rfl) (fun m => rfl) U (by intro j hj h; omega) (Weak.mk [some 0, some 1] _ _ _ U U U U (by (repeat' (first | exact trivial | refine And.intro ?_ ?_ | refine ⟨_, U, _, U, ?_⟩ | exact VLe.refl _)); done) (by (repeat' (first | exact trivial | refine And.intro ?_ ?_ | refine ⟨_, U, _, U, _, U, ?_⟩ | exact VLe.refl _)); done)) ?_ ?_
    · intro m hm hP
      have hm' : m < y.args.length := by omega
      have hs2 := lsum_mem Ty.size (List.getElem_mem hm)
      repeat' (first | ((with_reducible refine D.nil ?_); first | refine AX.nilL ?_ | refine AX.nilD (by kernel_rfl) ?_) | ((with_reducible refine D.load ?_); first | refine L.ldb U U U U U U ?_ | refine L.lda U U U U U ?_) | ((with_reducible refine D.move ?_); refine L.mv U U U ?_) | ((with_reducible refine D.fieldAddr ?_); refine L.fab U U U U U ?_) | ((with_reducible refine D.assign ?_); refine L.asg U U U ?_) | ((with_reducible refine D.call ?_); refine L.c2 (ih _ _ ?_ ?_) U U U U ?_) | ((with_reducible refine D.indexAddr ?_); refine L.ixt _ U U U U U U U (by assumption) ?_) | ((with_reducible refine D.not ?_); refine L.nt U U U ?_) | ((with_reducible refine D.aw ?_); first | refine K.sq (AW.regL ?_) | refine K.sq (AW.regD mixed (by kernel_rfl) ?_) | refine AW.condS U (fun h => ?_) (fun h => ?_) | refine AW.skip ?_ | refine AW.ret ?_) | with_reducible refine K.tN ?_ | with_reducible refine K.bN ?_ | with_reducible refine K.tR ?_ | with_reducible refine K.bR ?_ | with_reducible refine K.gR ?_ | with_reducible refine K.r1 (by with_unfolding_all rfl) (by with_unfolding_all rfl) ?_ | ((with_reducible show @LE.le Nat _ _ _); omega) | ((with_reducible show @LT.lt Nat _ _ _); omega))
      · have : ¬ x = y := by rw [heq]; exact fun hc => list_ne hm hm' (by simpa using h) hc.2
        simp [this, tupV, constV, V.wk, V.wks]
      · exact ⟨rfl, step2 hl hm hP (by simpa using h), (Weak.mk [some 0, some 1] _ _ _ U U U U (by (repeat' (first | exact trivial | refine And.intro ?_ ?_ | refine ⟨_, U, _, U, ?_⟩ | exact VLe.refl _)); done) (by (repeat' (first | exact trivial | refine And.intro ?_ ?_ | refine ⟨_, U, _, U, _, U, ?_⟩ | exact VLe.refl _)); done))⟩
    · intro hP
      have : x = y := heq.2 ⟨hk, list_eq hl hP⟩
      repeat' (first | ((with_reducible refine D.nil ?_); refine AX.nilL ?_) | ((with_reducible refine D.assign ?_); refine L.asg U U U ?_) | ((with_reducible refine D.aw ?_); first | refine K.sq (AW.regL ?_) | refine AW.ret ?_) | with_reducible refine K.tN ?_ | with_reducible refine K.r1 (by with_unfolding_all rfl) (by with_unfolding_all rfl) ?_)
      simp [this, tupV, constV, V.wk, V.wks]
theorem sameTy2_c : ∀ (n : Nat) (x y : Ty), x.size ≤ n → n < 1099511627776 → PC E 72 [.agg x.view, .agg y.view] (.bool (decide (x = y))) := by
  intro n
  induction n with
  | zero => intro x y h; have := x.size_pos; omega
  | succ n ih =>
  intro x y hsz hb
  have hsz' := Ty.size_eq x
  have hlen := lsum_len Ty.size Ty.size_pos x.args
  have heq := Ty.eq_iff x y
  refine AC.mk Tryz.func72 rfl rfl rfl rfl rfl (Nat.le_of_ble_eq_true rfl) ?_
  repeat' (first | ((with_reducible refine D.nil ?_); refine AX.nilL ?_) | ((with_reducible refine D.load ?_); first | refine L.ldb U U U U U U ?_ | refine AX.sk U U ?_) | ((with_reducible refine D.move ?_); refine L.mv U U U ?_) | ((with_reducible refine D.fieldAddr ?_); first | refine L.fab U U U U U ?_ | refine AX.sk U U ?_ | ((fail_if_success refine AX.wt U ?_); refine AX.gs U U (fun _ => trivial) (fun h => ?_) (fun h => ?_))) | ((with_reducible refine D.assign ?_); refine L.asg U U U ?_) | ((with_reducible refine D.bin ?_); first | refine L.bn U U U U U ?_ | refine AX.sk U U ?_) | ((with_reducible refine D.call ?_); first | refine L.lnt U U U U ?_ | refine AX.sk U U ?_) | ((with_reducible refine D.box ?_); refine L.bx U U U U ?_) | ((with_reducible refine D.pick ?_); refine L.pk U U U U ?_) | ((with_reducible refine D.aw ?_); first | refine K.sq (AW.regL ?_) | refine K.sq (K.sq ?_) | refine AW.regL ?_ | refine AW.condT U ?_ | refine AW.condS U (fun h => ?_) (fun h => ?_) | refine AW.skip ?_ | refine AW.ret ?_) | with_reducible refine K.tN ?_ | with_reducible refine K.tR ?_ | with_reducible refine K.r1 (by with_unfolding_all rfl) (by with_unfolding_all rfl) ?_)
  · have : ¬ x = y := by rw [heq]; simp_all
    simp [this, tupV, constV, V.wk, V.wks]
  · have : ¬ x = y := by rintro rfl; simp at h
    simp [this, tupV, constV, V.wk, V.wks]
  · rename_i hk
    simp at h hk
    have hl : x.args.length = y.args.length := by omega
    refine AW.range x.args.length (fun m => ∀ j (hj : j < x.args.length), j < m → x.args[j] = y.args[j]'(by omega))
      (fun m => ([(2, .ptr 0 0), (3, .ptr 1 0), (22, .s .ty x.args), (23, .i x.args.length), (24, .i m)], ⟨2, [(0, .var x.view), (1, .var y.view)]⟩))
      (by omega) (fun m => rfl) (fun m => rfl) U (by intro j hj h; omega) (Weak.mk [some 0, some 1] _ _ _ U U U U (by (repeat' (first | exact trivial | refine And.intro ?_ ?_ | refine ⟨_, U, _, U, ?_⟩ | exact VLe.refl _)); done) (by (repeat' (first | exact trivial | refine And.intro ?_ ?_ | refine ⟨_, U, _, U, _, U, ?_⟩ | exact VLe.refl _)); done)) ?_ ?_
    · intro m hm hP
      have hm' : m < y.args.length := by omega
      have hs2 := lsum_mem Ty.size (List.getElem_mem hm)
      repeat' (first | ((with_reducible refine D.nil ?_); first | refine AX.nilL ?_ | refine AX.nilD (by kernel_rfl) ?_) | ((with_reducible refine D.load ?_); first | refine L.ldb U U U U U U ?_ | refine L.lda U U U U U ?_) | ((with_reducible refine D.move ?_); refine L.mv U U U ?_) | ((with_reducible refine D.fieldAddr ?_); refine L.fab U U U U U ?_) | ((with_reducible refine D.assign ?_); refine L.asg U U U ?_) | ((with_reducible refine D.call ?_); refine L.c2 (ih _ _ ?_ ?_) U U U U ?_) | ((with_reducible refine D.alloc ?_); refine L.al U U U ?_) | ((with_reducible refine D.store ?_); refine L.st U U U U U U U U U ?_) | ((with_reducible refine D.indexAddr ?_); refine L.ixt _ U U U U U U U (by assumption) ?_) | ((with_reducible refine D.not ?_); refine L.nt U U U ?_) | ((with_reducible refine D.aw ?_); first | refine K.sq (AW.regL ?_) | refine K.sq (AW.regD mixed (by kernel_rfl) ?_) | refine AW.condS U (fun h => ?_) (fun h => ?_) | refine AW.skip ?_ | refine AW.ret ?_) | with_reducible refine K.tN ?_ | with_reducible refine K.bN ?_ | with_reducible refine K.tR ?_ | with_reducible refine K.bR ?_ | with_reducible refine K.gR ?_ | with_reducible refine K.r1 (by with_unfolding_all rfl) (by with_unfolding_all rfl) ?_ | ((with_reducible show @LE.le Nat _ _ _); omega) | ((with_reducible show @LT.lt Nat _ _ _); omega))
      · have : ¬ x = y := by rw [heq]; exact fun hc => list_ne hm hm' (by simpa using h) hc.2
        simp [this, tupV, constV, V.wk, V.wks]
      · exact ⟨rfl, step2 hl hm hP (by simpa using h), (Weak.mk [some 0, some 1] _ _ _ U U U U (by (repeat' (first | exact trivial | refine And.intro ?_ ?_ | refine ⟨_, U, _, U, ?_⟩ | exact VLe.refl _)); done) (by (repeat' (first | exact trivial | refine And.intro ?_ ?_ | refine ⟨_, U, _, U, _, U, ?_⟩ | exact VLe.refl _)); done))⟩
    · intro hP
      have : x = y := heq.2 ⟨hk, list_eq hl hP⟩
      repeat' (first | ((with_reducible refine D.nil ?_); refine AX.nilL ?_) | ((with_reducible refine D.assign ?_); refine L.asg U U U ?_) | ((with_reducible refine D.aw ?_); first | refine K.sq (AW.regL ?_) | refine AW.ret ?_) | with_reducible refine K.tN ?_ | with_reducible refine K.r1 (by with_unfolding_all rfl) (by with_unfolding_all rfl) ?_)
      simp [this, tupV, constV, V.wk, V.wks]
theorem sameTm_c : ∀ (n : Nat) (x y : Tm), x.full ≤ n → n < 1099511627776 → PC E 17 [.agg x.view, .agg y.view] (.bool (decide (x = y))) := by
  intro n
  induction n with
  | zero => intro x y h; have := x.full_pos; omega
  | succ n ih =>
  intro x y hsz hb
  have hsz' := Tm.full_eq x
  have hlen := lsum_len Tm.full Tm.full_pos x.args
  have heq := Tm.eq_iff x y
  have hty := sameTy_c _ x.ty y.ty (Nat.le_refl _) (by omega)
  refine AC.mk Tryz.func17 rfl rfl rfl rfl rfl (Nat.le_of_ble_eq_true rfl) ?_
  repeat' (first | ((with_reducible refine D.nil ?_); refine AX.nilL ?_) | ((with_reducible refine D.load ?_); first | refine L.ldb U U U U U U ?_ | refine AX.sk U U ?_) | ((with_reducible refine D.move ?_); refine L.mv U U U ?_) | ((with_reducible refine D.fieldAddr ?_); first | refine L.fab U U U U U ?_ | refine AX.sk U U ?_ | ((fail_if_success refine AX.wt U ?_); refine AX.gs U U (fun _ => trivial) (fun h => ?_) (fun h => ?_))) | ((with_reducible refine D.assign ?_); refine L.asg U U U ?_) | ((with_reducible refine D.bin ?_); first | refine L.bn U U U U U ?_ | refine AX.sk U U ?_) | ((with_reducible refine D.call ?_); first | refine L.lnt U U U U ?_ | refine L.c2 (hty) U U U U ?_ | refine AX.sk U U ?_) | ((with_reducible refine D.box ?_); refine L.bx U U U U ?_) | ((with_reducible refine D.not ?_); first | refine L.nt U U U ?_ | refine AX.sk U U ?_) | ((with_reducible refine D.pick ?_); refine L.pk U U U U ?_) | ((with_reducible refine D.aw ?_); first | refine K.sq (AW.regL ?_) | refine K.sq (K.sq ?_) | refine AW.regL ?_ | refine AW.condT U ?_ | refine AW.condS U (fun h => ?_) (fun h => ?_) | refine AW.skip ?_ | refine AW.ret ?_) | with_reducible refine K.tN ?_ | with_reducible refine K.tR ?_ | with_reducible refine K.r1 (by with_unfolding_all rfl) (by with_unfolding_all rfl) ?_)
  · have : ¬ x = y := by rw [heq]; simp_all
    simp [this, tupV, constV, V.wk, V.wks]
  · have : ¬ x = y := by rw [heq]; simp_all
    simp [this, tupV, constV, V.wk, V.wks]
  · have : ¬ x = y := by rw [heq]; simp_all
    simp [this, tupV, constV, V.wk, V.wks]
  · have : ¬ x = y := by rintro rfl; simp at h
    simp [this, tupV, constV, V.wk, V.wks]
  · rename_i h1 h2 h3
    simp at h h1 h2 h3
    have hl : x.args.length = y.args.length := by omega
    refine AW.range x.args.length (fun m => ∀ j (hj : j < x.args.length), j < m → x.args[j] = y.args[j]'(by omega))
      (fun m => ([(2, .ptr 0 0), (3, .ptr 1 0), (37, .i x.args.length), (38, .i m)], ⟨2, [(0, .var x.view), (1, .var y.view)]⟩))
      (by omega) (fun m => rfl) (fun m => rfl) U (by intro j hj h; omega) (Weak.mk [some 0, some 1] _ _ _ U U U U (by (repeat' (first | exact trivial | refine And.intro ?_ ?_ | refine ⟨_, U, _, U, ?_⟩ | exact VLe.refl _)); done) (by (repeat' (first | exact trivial | refine And.intro ?_ ?_ | refine ⟨_, U, _, U, _, U, ?_⟩ | exact VLe.refl _)); done)) ?_ ?_
    · intro m hm hP
      have hm' : m < y.args.length := by omega
      have hs2 := lsum_mem Tm.full (List.getElem_mem hm)
      repeat' (first | ((with_reducible refine D.nil ?_); first | refine AX.nilL ?_ | refine AX.nilD (by kernel_rfl) ?_) | ((with_reducible refine D.load ?_); first | refine L.ldb U U U U U U ?_ | refine L.lda U U U U U ?_) | ((with_reducible refine D.move ?_); refine L.mv U U U ?_) | ((with_reducible refine D.fieldAddr ?_); refine L.fab U U U U U ?_) | ((with_reducible refine D.assign ?_); refine L.asg U U U ?_) | ((with_reducible refine D.call ?_); refine L.c2 (ih _ _ ?_ ?_) U U U U ?_) | ((with_reducible refine D.indexAddr ?_); refine L.ixt _ U U U U U U U (by assumption) ?_) | ((with_reducible refine D.not ?_); refine L.nt U U U ?_) | ((with_reducible refine D.aw ?_); first | refine K.sq (AW.regL ?_) | refine K.sq (AW.regD mixed (by kernel_rfl) ?_) | refine AW.condS U (fun h => ?_) (fun h => ?_) | refine AW.skip ?_ | refine AW.ret ?_) | with_reducible refine K.tN ?_ | with_reducible refine K.bN ?_ | with_reducible refine K.tR ?_ | with_reducible refine K.bR ?_ | with_reducible refine K.gR ?_ | with_reducible refine K.r1 (by with_unfolding_all rfl) (by with_unfolding_all rfl) ?_ | ((with_reducible show @LE.le Nat _ _ _); omega) | ((with_reducible show @LT.lt Nat _ _ _); omega))
      · have : ¬ x = y := by rw [heq]; exact fun hc => list_ne hm hm' (by simpa using h) hc.2.2.2
        simp [this, tupV, constV, V.wk, V.wks]
      · exact ⟨rfl, step2 hl hm hP (by simpa using h), (Weak.mk [some 0, some 1] _ _ _ U U U U (by (repeat' (first | exact trivial | refine And.intro ?_ ?_ | refine ⟨_, U, _, U, ?_⟩ | exact VLe.refl _)); done) (by (repeat' (first | exact trivial | refine And.intro ?_ ?_ | refine ⟨_, U, _, U, _, U, ?_⟩ | exact VLe.refl _)); done))⟩
    · intro hP
      have : x = y := heq.2 ⟨h1, h2, h3, list_eq hl hP⟩
      repeat' (first | ((with_reducible refine D.nil ?_); refine AX.nilL ?_) | ((with_reducible refine D.assign ?_); refine L.asg U U U ?_) | ((with_reducible refine D.aw ?_); first | refine K.sq (AW.regL ?_) | refine AW.ret ?_) | with_reducible refine K.tN ?_ | with_reducible refine K.r1 (by with_unfolding_all rfl) (by with_unfolding_all rfl) ?_)
      simp [this, tupV, constV, V.wk, V.wks]
end Go.Ab
namespace Go.Ab
open Go Go.Proofs
set_option maxRecDepth 100000
set_option linter.all false
def nearF (b : Bool) (l : List (Int × Int)) : Bool := b && l.all fun p => decide (p.1 ≤ 536870912)
theorem nearF_append (b : Bool) (l l' : List (Int × Int)) : nearF (nearF b l) l' = nearF b (l ++ l') := by simp [nearF, Bool.and_assoc]
theorem nearF_nil (b : Bool) : nearF b [] = b := by simp [nearF]
theorem nearCb (b : Bool) (i bl : Int) : AC E 159 [.i i, .i bl, .ptr 0 0] ⟨1, [(0, .var [.bool b])]⟩ (.tup []) ⟨1, [(0, .var [.bool (nearF b [(i, bl)])])]⟩ := by
  refine AC.mk Tryz.func159 rfl rfl rfl rfl rfl (Nat.le_of_ble_eq_true rfl) ?_
  repeat' (first | ((with_reducible refine D.nil ?_); refine AX.nilL ?_) | ((with_reducible refine D.load ?_); refine L.ldb U U U U U U ?_) | ((with_reducible refine D.move ?_); first | refine L.mv U U U ?_ | refine AX.sk U U ?_ | ((fail_if_success refine AX.wt U ?_); refine AX.gs U U (fun _ => trivial) (fun h => ?_) (fun h => ?_))) | ((with_reducible refine D.bin ?_); first | refine L.bn U U U U U ?_ | refine AX.sk U U ?_) | ((with_reducible refine D.store ?_); refine L.st U U U U U U U U U ?_) | ((with_reducible refine D.pick ?_); refine L.pk U U U U ?_) | ((with_reducible refine D.aw ?_); refine AW.regL ?_))
  · (exact K.n2 [some 0] U U U U U (by (repeat' (first | exact trivial | refine And.intro ?_ ?_ | refine ⟨_, U, _, U, _, U, ?_⟩ | exact VLe.of_eq (by simp [Sto.upd, nearF, h]))); done) U (by simp [tupV, V.wk, V.wks, constV, Ty.view, Tm.view, nearF, h]))
  · (exact K.n2 [some 0] U U U U U (by (repeat' (first | exact trivial | refine And.intro ?_ ?_ | refine ⟨_, U, _, U, _, U, ?_⟩ | exact VLe.of_eq (by simp [Sto.upd, nearF, h]))); done) U (by simp [tupV, V.wk, V.wks, constV, Ty.view, Tm.view, nearF, h]))
theorem nearEach1 : ∀ (n : Nat) (t : Tm) (b : Bool) (bl : Int), t.full ≤ n → n < 1099511627776 → 0 ≤ bl → bl + n < 1099511627776 → AC E 183 [.agg t.view, .i bl, .ptr 0 0, .ptr 1 0] ⟨3, [(0, .var [.fn (.func 159) [] [.ptr 2 0]]), (1, .var [.fn (.func 183) [] [.ptr 0 0, .ptr 1 0]]), (2, .var [.bool b])]⟩ (.tup [])
    ⟨3, [(0, .var [.fn (.func 159) [] [.ptr 2 0]]), (1, .var [.fn (.func 183) [] [.ptr 0 0, .ptr 1 0]]), (2, .var [.bool (nearF b (t.vars bl))])]⟩ := by
  intro n
  induction n with
  | zero => intro t b bl h; have := t.full_pos; omega
  | succ n ih =>
  intro t b bl hsz hb hbl hbn
  have hsz' := Tm.full_eq t
  have hlen := lsum_len Tm.full Tm.full_pos t.args
  have hv := Tm.vars_eq bl t
  refine AC.mk Tryz.func183 rfl rfl rfl rfl rfl (Nat.le_of_ble_eq_true rfl) ?_
  repeat' (first | ((with_reducible refine D.nil ?_); refine AX.nilL ?_) | ((with_reducible refine D.load ?_); refine L.ldb U U U U U U ?_) | ((with_reducible refine D.move ?_); refine L.mv U U U ?_) | ((with_reducible refine D.fieldAddr ?_); refine L.fab U U U U U ?_) | ((with_reducible refine D.assign ?_); refine L.asg U U U ?_) | ((with_reducible refine D.bin ?_); first | refine L.ad U U U U (by omega) ?_ | refine L.bn U U U U U ?_) | ((with_reducible refine D.call ?_); first | refine L.lnt U U U U ?_ | (apply L.cv2 (nearCb _ _ _) [2] 0 rfl; rfl; rfl; rfl; rfl; rfl; rfl; rfl; (focus ((repeat' (first | exact trivial | refine And.intro ?_ ?_ | refine ⟨_, U, _, U, _, U, ?_⟩ | exact VLe.refl _)); done)); rfl; rfl; rfl; rfl)) | ((with_reducible refine D.box ?_); refine L.bx U U U U ?_) | ((with_reducible refine D.aw ?_); first | refine K.sq (AW.regL ?_) | refine K.sq (K.sq ?_) | refine AW.regL ?_ | refine AW.condS U (fun h => ?_) (fun h => ?_) | refine AW.skip ?_) | with_reducible refine K.tN ?_)
  all_goals
    have hup : up t.kind bl ≤ bl + 1 := by simp only [up]; split <;> omega
    have hup0 : 0 ≤ up t.kind bl := by simp only [up]; split <;> omega
    refine AW.range t.args.length (fun m => True)
      (fun m => ([(1, .i (up t.kind bl)), (3, .ptr 1 0), (22, .s .tm t.args), (23, .i t.args.length), (24, .i m)], ⟨4, [(0, .var [.fn (.func 159) [] [.ptr 2 0]]), (1, .var [.fn (.func 183) [] [.ptr 0 0, .ptr 1 0]]), (2, .var [.bool (nearF b ((if t.kind = 1 then [(t.index, bl)] else []) ++ (t.args.take m).flatMap (Tm.vars (up t.kind bl))))]), (3, .var t.view)]⟩))
      (by omega) (fun m => rfl) (fun m => rfl) rfl trivial ?_ ?_ ?_
    · simp_all only [beq_iff_eq, beq_eq_false_iff_ne, ne_eq]
      exact (Weak.mk [some 0, some 1, some 2, some 3] _ _ _ U U U U (by (repeat' (first | exact trivial | refine And.intro ?_ ?_ | refine ⟨_, U, _, U, ?_⟩ | exact VLe.refl _ | exact VLe.of_eq (by simp [Sto.upd, up, *, nearF_nil]))); done) (by (repeat' (first | exact trivial | refine And.intro ?_ ?_ | refine ⟨_, U, _, U, _, U, ?_⟩ | exact VLe.refl _ | exact VLe.of_eq (by simp [Sto.upd, up, *, nearF_nil]))); done))
    · intro m hm hP
      have hs2 := lsum_mem Tm.full (List.getElem_mem hm)
      have hc := ih t.args[m] (nearF b ((if t.kind = 1 then [(t.index, bl)] else []) ++ (t.args.take m).flatMap (Tm.vars (up t.kind bl)))) (up t.kind bl) (by omega) (by omega) hup0 (by omega)
      repeat' (first | ((with_reducible refine D.nil ?_); refine AX.nilL ?_) | ((with_reducible refine D.load ?_); first | refine L.ldb U U U U U U ?_ | refine L.lda U U U U U ?_) | ((with_reducible refine D.move ?_); refine L.mv U U U ?_) | ((with_reducible refine D.call ?_); (apply L.cv2 (hc) [0, 1, 2] 0 rfl; rfl; rfl; rfl; rfl; rfl; rfl; rfl; (focus ((repeat' (first | exact trivial | refine And.intro ?_ ?_ | refine ⟨_, U, _, U, _, U, ?_⟩ | exact VLe.refl _)); done)); rfl; rfl; rfl; rfl)) | ((with_reducible refine D.alloc ?_); refine L.al U U U ?_) | ((with_reducible refine D.store ?_); refine L.st U U U U U U U U U ?_) | ((with_reducible refine D.indexAddr ?_); refine L.ixt _ U U U U U U U (by assumption) ?_) | ((with_reducible refine D.aw ?_); first | refine K.sq (AW.regL ?_) | refine AW.regL ?_) | with_reducible refine K.tN ?_ | with_reducible refine K.bN ?_)
      refine ⟨rfl, trivial, ?_⟩
      exact (Weak.mk [some 0, some 1, some 2, some 3] _ _ _ U U U U (by (repeat' (first | exact trivial | refine And.intro ?_ ?_ | refine ⟨_, U, _, U, ?_⟩ | exact VLe.refl _)); done) (by (repeat' (first | exact trivial | refine And.intro ?_ ?_ | refine ⟨_, U, _, U, _, U, ?_⟩ | exact VLe.refl _ | exact VLe.of_eq (by simp [Sto.upd, nearF_append, flat_take _ _ _ hm]))); done))
    · intro hP
      skip
      (exact K.n2 [some 0, some 1, some 2] U U U U U (by (repeat' (first | exact trivial | refine And.intro ?_ ?_ | refine ⟨_, U, _, U, _, U, ?_⟩ | exact VLe.refl _ | exact VLe.of_eq (by simp [Sto.upd, hv]))); done) U (by simp [tupV, V.wk, V.wks, constV, Ty.view, Tm.view, hv]))
theorem nearEach (t : Tm) (b : Bool) (ht : t.full < 1099511627776) : AC E 158 [.agg t.view, .fn (.func 159) [] [.ptr 0 0]] ⟨1, [(0, .var [.bool b])]⟩ (.tup []) ⟨1, [(0, .var [.bool (nearF b (t.vars 0))])]⟩ := by
  have hc := nearEach1 _ t b 0 (Nat.le_refl _) (by omega) (by omega) (by omega)
  refine AC.mk Tryz.func158 rfl rfl rfl rfl rfl (Nat.le_of_ble_eq_true rfl) ?_
  repeat' (first | ((with_reducible refine D.nil ?_); refine AX.nilL ?_) | ((with_reducible refine D.load ?_); refine L.ldb U U U U U U ?_) | ((with_reducible refine D.call ?_); (apply L.cv2 (hc) [2, 3, 0] 0 rfl; rfl; rfl; rfl; rfl; rfl; rfl; rfl; (focus ((repeat' (first | exact trivial | refine And.intro ?_ ?_ | refine ⟨_, U, _, U, _, U, ?_⟩ | exact VLe.refl _)); done)); rfl; rfl; rfl; rfl)) | ((with_reducible refine D.box ?_); refine L.bx U U U U ?_) | ((with_reducible refine D.alloc ?_); refine L.al U U U ?_) | ((with_reducible refine D.store ?_); refine L.st U U U U U U U U U ?_) | ((with_reducible refine D.ax ?_); refine L.mf U U U U ?_) | ((with_reducible refine D.aw ?_); first | refine K.sq (AW.regL ?_) | refine AW.regL ?_) | with_reducible refine K.tN ?_)
  (exact K.n2 [some 0] U U U U U (by (repeat' (first | exact trivial | refine And.intro ?_ ?_ | refine ⟨_, U, _, U, _, U, ?_⟩ | exact VLe.refl _)); done) U (by simp [tupV, V.wk, V.wks, constV, Ty.view, Tm.view, nearF]))
theorem near_c (t : Tm) (ht : t.full < 1099511627776) : PC E 119 [.agg t.view] (.bool t.near) := by
  have hc := nearEach t true ht
  refine AC.mk Tryz.func119 rfl rfl rfl rfl rfl (Nat.le_of_ble_eq_true rfl) ?_
  repeat' (first | ((with_reducible refine D.nil ?_); refine AX.nilL ?_) | ((with_reducible refine D.load ?_); refine L.ldb U U U U U U ?_) | ((with_reducible refine D.assign ?_); refine L.asg U U U ?_) | ((with_reducible refine D.call ?_); (apply L.cb2 (hc) [1] 0 rfl; rfl; rfl; rfl; rfl; rfl; rfl; (focus ((repeat' (first | exact trivial | refine And.intro ?_ ?_ | refine ⟨_, U, _, U, _, U, ?_⟩ | exact VLe.refl _)); done)); rfl; rfl; rfl; rfl)) | ((with_reducible refine D.box ?_); refine L.bx U U U U ?_) | ((with_reducible refine D.alloc ?_); refine L.al U U U ?_) | ((with_reducible refine D.store ?_); refine L.st U U U U U U U U U ?_) | ((with_reducible refine D.ax ?_); refine L.mf U U U U ?_) | ((with_reducible refine D.aw ?_); first | refine K.sq (AW.regL ?_) | refine AW.ret ?_) | with_reducible refine K.tN ?_ | with_reducible refine K.r1 (by with_unfolding_all rfl) (by with_unfolding_all rfl) ?_)
  simp [tupV, V.wk, V.wks, nearF, Tm.near]
end Go.Ab
namespace Go.Ab
open Go Go.Proofs
set_option maxRecDepth 100000
set_option linter.all false
theorem countCb (at_ c i bl : Int) (hc : 0 ≤ c ∧ c < 1099511627776) (hi : 0 ≤ i ∧ i < 9223372036854775808) (hb : 0 ≤ bl ∧ bl < 1099511627776) : AC E 160 [.i i, .i bl, .ptr 0 0, .ptr 1 0] ⟨2, [(0, .var [.i at_]), (1, .var [.i c])]⟩ (.tup []) ⟨2, [(0, .var [.i at_]), (1, .var [.i (c + cnt at_ [(i, bl)])])]⟩ := by
  refine AC.mk Tryz.func160 rfl rfl rfl rfl rfl (Nat.le_of_ble_eq_true rfl) ?_
  repeat' (first | ((with_reducible refine D.nil ?_); refine AX.nilL ?_) | ((with_reducible refine D.load ?_); refine L.ldb U U U U U U ?_) | ((with_reducible refine D.move ?_); refine L.mv U U U ?_) | ((with_reducible refine D.bin ?_); first | refine L.ad U U U U (by omega) ?_ | refine L.sb U U U U (by omega) ?_ | refine L.bn U U U U U ?_) | ((with_reducible refine D.store ?_); refine L.st U U U U U U U U U ?_) | ((with_reducible refine D.aw ?_); first | refine K.sq (AW.regL ?_) | refine AW.regL ?_ | refine AW.condS U (fun h => ?_) (fun h => ?_) | refine AW.skip ?_) | with_reducible refine K.tN ?_)
  · have : i - bl = at_ := by simpa using h
    (exact K.n2 [some 0, some 1] U U U U U (by (repeat' (first | exact trivial | refine And.intro ?_ ?_ | refine ⟨_, U, _, U, _, U, ?_⟩ | exact VLe.refl _ | exact VLe.of_eq (by simp [Sto.upd, cnt_one, this]))); done) U (by simp [tupV, V.wk, V.wks, constV, Ty.view, Tm.view, cnt_one, this]))
  · have : ¬ i - bl = at_ := by simpa using h
    (exact K.n2 [some 0, some 1] U U U U U (by (repeat' (first | exact trivial | refine And.intro ?_ ?_ | refine ⟨_, U, _, U, _, U, ?_⟩ | exact VLe.refl _ | exact VLe.of_eq (by simp [Sto.upd, cnt_one, this]))); done) U (by simp [tupV, V.wk, V.wks, constV, Ty.view, Tm.view, cnt_one, this]))
theorem countEach1 (at_ : Int) : ∀ (n : Nat) (t : Tm) (c : Int) (bl : Int), t.full ≤ n → n < 1099511627776 → 0 ≤ bl → bl + n < 1099511627776 → 0 ≤ c → c + t.full < 1099511627776 → (∀ p ∈ t.vars bl, 0 ≤ p.1 ∧ p.1 < 9223372036854775808) → AC E 183 [.agg t.view, .i bl, .ptr 0 0, .ptr 1 0] ⟨4, [(0, .var [.fn (.func 160) [] [.ptr 2 0, .ptr 3 0]]), (1, .var [.fn (.func 183) [] [.ptr 0 0, .ptr 1 0]]), (2, .var [.i at_]), (3, .var [.i c])]⟩ (.tup [])
    ⟨4, [(0, .var [.fn (.func 160) [] [.ptr 2 0, .ptr 3 0]]), (1, .var [.fn (.func 183) [] [.ptr 0 0, .ptr 1 0]]), (2, .var [.i at_]), (3, .var [.i (c + cnt at_ (t.vars bl))])]⟩ := by
  intro n
  induction n with
  | zero => intro t b bl h; have := t.full_pos; omega
  | succ n ih =>
  intro t c bl hsz hb hbl hbn hc0 hcn hix
  have hsz' := Tm.full_eq t
  have hlen := lsum_len Tm.full Tm.full_pos t.args
  have hv := Tm.vars_eq bl t
  have hi : t.kind = 1 → 0 ≤ t.index ∧ t.index < 9223372036854775808 := fun h => by simpa using hix (t.index, bl) (by rw [hv]; simp [h])
  have hcb : t.kind = 1 → _ := fun h => countCb at_ c t.index bl (by omega) (hi h) (by omega)
  refine AC.mk Tryz.func183 rfl rfl rfl rfl rfl (Nat.le_of_ble_eq_true rfl) ?_
  repeat' (first | ((with_reducible refine D.nil ?_); refine AX.nilL ?_) | ((with_reducible refine D.load ?_); refine L.ldb U U U U U U ?_) | ((with_reducible refine D.move ?_); refine L.mv U U U ?_) | ((with_reducible refine D.fieldAddr ?_); refine L.fab U U U U U ?_) | ((with_reducible refine D.assign ?_); refine L.asg U U U ?_) | ((with_reducible refine D.bin ?_); first | refine L.ad U U U U (by omega) ?_ | refine L.bn U U U U U ?_) | ((with_reducible refine D.call ?_); first | refine L.lnt U U U U ?_ | (apply L.cv2 (hcb (by simpa using h)) [2, 3] 0 rfl; rfl; rfl; rfl; rfl; rfl; rfl; rfl; (focus ((repeat' (first | exact trivial | refine And.intro ?_ ?_ | refine ⟨_, U, _, U, _, U, ?_⟩ | exact VLe.refl _)); done)); rfl; rfl; rfl; rfl)) | ((with_reducible refine D.box ?_); refine L.bx U U U U ?_) | ((with_reducible refine D.aw ?_); first | refine K.sq (AW.regL ?_) | refine K.sq (K.sq ?_) | refine AW.regL ?_ | refine AW.condS U (fun h => ?_) (fun h => ?_) | refine AW.skip ?_) | with_reducible refine K.tN ?_)
  all_goals
    have hup : up t.kind bl ≤ bl + 1 := by simp only [up]; split <;> omega
    have hup0 : 0 ≤ up t.kind bl := by simp only [up]; split <;> omega
    refine AW.range t.args.length (fun m => True)
      (fun m => ([(1, .i (up t.kind bl)), (3, .ptr 1 0), (22, .s .tm t.args), (23, .i t.args.length), (24, .i m)], ⟨5, [(0, .var [.fn (.func 160) [] [.ptr 2 0, .ptr 3 0]]), (1, .var [.fn (.func 183) [] [.ptr 0 0, .ptr 1 0]]), (2, .var [.i at_]), (3, .var [.i (c + cnt at_ ((if t.kind = 1 then [(t.index, bl)] else []) ++ (t.args.take m).flatMap (Tm.vars (up t.kind bl))))]), (4, .var t.view)]⟩))
      (by omega) (fun m => rfl) (fun m => rfl) rfl trivial ?_ ?_ ?_
    · simp_all only [beq_iff_eq, beq_eq_false_iff_ne, ne_eq]
      exact (Weak.mk [some 0, some 1, some 2, some 3, some 4] _ _ _ U U U U (by (repeat' (first | exact trivial | refine And.intro ?_ ?_ | refine ⟨_, U, _, U, ?_⟩ | exact VLe.refl _ | exact VLe.of_eq (by simp [Sto.upd, up, *, cnt_append, cnt]))); done) (by (repeat' (first | exact trivial | refine And.intro ?_ ?_ | refine ⟨_, U, _, U, _, U, ?_⟩ | exact VLe.refl _ | exact VLe.of_eq (by simp [Sto.upd, up, *, cnt_append, cnt]))); done))
    · intro m hm hP
      have hs2 := lsum_mem Tm.full (List.getElem_mem hm)
      have hs3 : cnt at_ ((if t.kind = 1 then [(t.index, bl)] else []) ++ (t.args.take m).flatMap (Tm.vars (up t.kind bl))) + t.args[m].full ≤ 1 + (t.args.map Tm.full).sum := by
        have h1 := cnt_le at_ ((if t.kind = 1 then [(t.index, bl)] else []) ++ (t.args.take m).flatMap (Tm.vars (up t.kind bl)))
        have h2 := flatLen (t.args.take m) (Tm.vars (up t.kind bl)) fun x _ => x.vars_len _
        have h3 : ((t.args.take m).map Tm.size).sum ≤ ((t.args.take m).map Tm.full).sum := lsum_le _ (fun x _ => x.size_le_full)
        have h4 := lsum_take Tm.full t.args m hm
        have h5 := lsum_take_le Tm.full t.args (m + 1)
        have h6 : (if t.kind = 1 then [(t.index, bl)] else []).length ≤ 1 := by split <;> simp
        simp only [List.length_append] at h1
        omega
      have hix' : ∀ p ∈ (t.args[m]).vars (up t.kind bl), 0 ≤ p.1 ∧ p.1 < 9223372036854775808 := fun p hp => hix p (by rw [hv]; exact List.mem_append_right _ (List.mem_flatMap.2 ⟨_, List.getElem_mem hm, hp⟩))
      have hc := ih t.args[m] (c + cnt at_ ((if t.kind = 1 then [(t.index, bl)] else []) ++ (t.args.take m).flatMap (Tm.vars (up t.kind bl)))) (up t.kind bl) (by omega) (by omega) hup0 (by omega) (by omega) (by omega) hix'
      repeat' (first | ((with_reducible refine D.nil ?_); refine AX.nilL ?_) | ((with_reducible refine D.load ?_); first | refine L.ldb U U U U U U ?_ | refine L.lda U U U U U ?_) | ((with_reducible refine D.move ?_); refine L.mv U U U ?_) | ((with_reducible refine D.call ?_); (apply L.cv2 (hc) [0, 1, 2, 3] 0 rfl; rfl; rfl; rfl; rfl; rfl; rfl; rfl; (focus ((repeat' (first | exact trivial | refine And.intro ?_ ?_ | refine ⟨_, U, _, U, _, U, ?_⟩ | exact VLe.refl _)); done)); rfl; rfl; rfl; rfl)) | ((with_reducible refine D.alloc ?_); refine L.al U U U ?_) | ((with_reducible refine D.store ?_); refine L.st U U U U U U U U U ?_) | ((with_reducible refine D.indexAddr ?_); refine L.ixt _ U U U U U U U (by assumption) ?_) | ((with_reducible refine D.aw ?_); first | refine K.sq (AW.regL ?_) | refine AW.regL ?_) | with_reducible refine K.tN ?_ | with_reducible refine K.bN ?_)
      refine ⟨rfl, trivial, ?_⟩
      exact (Weak.mk [some 0, some 1, some 2, some 3, some 4] _ _ _ U U U U (by (repeat' (first | exact trivial | refine And.intro ?_ ?_ | refine ⟨_, U, _, U, ?_⟩ | exact VLe.refl _)); done) (by (repeat' (first | exact trivial | refine And.intro ?_ ?_ | refine ⟨_, U, _, U, _, U, ?_⟩ | exact VLe.refl _ | exact VLe.of_eq (by simp [Sto.upd, cnt_append, flat_take _ _ _ hm, Int.add_assoc]))); done))
    · intro hP
      skip
      (exact K.n2 [some 0, some 1, some 2, some 3] U U U U U (by (repeat' (first | exact trivial | refine And.intro ?_ ?_ | refine ⟨_, U, _, U, _, U, ?_⟩ | exact VLe.refl _ | exact VLe.of_eq (by simp [Sto.upd, hv]))); done) U (by simp [tupV, V.wk, V.wks, constV, Ty.view, Tm.view, hv]))
theorem countEach (t : Tm) (at_ : Int) (ht : t.full < 549755813888) (hix : ∀ p ∈ t.vars 0, 0 ≤ p.1 ∧ p.1 < 9223372036854775808) : AC E 158 [.agg t.view, .fn (.func 160) [] [.ptr 0 0, .ptr 1 0]] ⟨2, [(0, .var [.i at_]), (1, .var [.i 0])]⟩ (.tup []) ⟨2, [(0, .var [.i at_]), (1, .var [.i (cnt at_ (t.vars 0))])]⟩ := by
  have hc := countEach1 at_ _ t 0 0 (Nat.le_refl _) (by omega) (by omega) (by omega) (by omega) (by omega) hix
  refine AC.mk Tryz.func158 rfl rfl rfl rfl rfl (Nat.le_of_ble_eq_true rfl) ?_
  repeat' (first | ((with_reducible refine D.nil ?_); refine AX.nilL ?_) | ((with_reducible refine D.load ?_); refine L.ldb U U U U U U ?_) | ((with_reducible refine D.call ?_); (apply L.cv2 (hc) [3, 4, 0, 1] 0 rfl; rfl; rfl; rfl; rfl; rfl; rfl; rfl; (focus ((repeat' (first | exact trivial | refine And.intro ?_ ?_ | refine ⟨_, U, _, U, _, U, ?_⟩ | exact VLe.refl _)); done)); rfl; rfl; rfl; rfl)) | ((with_reducible refine D.box ?_); refine L.bx U U U U ?_) | ((with_reducible refine D.alloc ?_); refine L.al U U U ?_) | ((with_reducible refine D.store ?_); refine L.st U U U U U U U U U ?_) | ((with_reducible refine D.ax ?_); refine L.mf U U U U ?_) | ((with_reducible refine D.aw ?_); first | refine K.sq (AW.regL ?_) | refine AW.regL ?_) | with_reducible refine K.tN ?_)
  (exact K.n2 [some 0, some 1] U U U U U (by (repeat' (first | exact trivial | refine And.intro ?_ ?_ | refine ⟨_, U, _, U, _, U, ?_⟩ | exact VLe.refl _ | exact VLe.of_eq (by simp [Sto.upd, cnt]))); done) U (by simp [tupV, V.wk, V.wks, constV, Ty.view, Tm.view, cnt]))
theorem count_w (t : Tm) (at_ : Int) (ht : t.full < 549755813888) (hix : ∀ p ∈ t.vars 0, 0 ≤ p.1 ∧ p.1 < 9223372036854775808) : PC E 120 [.agg t.view, .i at_] (.i (cnt at_ (t.vars 0))) := by
  have hc := countEach t at_ ht hix
  refine AC.mk Tryz.func120 rfl rfl rfl rfl rfl (Nat.le_of_ble_eq_true rfl) ?_
  repeat' (first | ((with_reducible refine D.nil ?_); refine AX.nilL ?_) | ((with_reducible refine D.load ?_); refine L.ldb U U U U U U ?_) | ((with_reducible refine D.assign ?_); refine L.asg U U U ?_) | ((with_reducible refine D.call ?_); (apply L.cb2 (hc) [1, 2] 0 rfl; rfl; rfl; rfl; rfl; rfl; rfl; (focus ((repeat' (first | exact trivial | refine And.intro ?_ ?_ | refine ⟨_, U, _, U, _, U, ?_⟩ | exact VLe.refl _)); done)); rfl; rfl; rfl; rfl)) | ((with_reducible refine D.box ?_); refine L.bx U U U U ?_) | ((with_reducible refine D.alloc ?_); refine L.al U U U ?_) | ((with_reducible refine D.store ?_); refine L.st U U U U U U U U U ?_) | ((with_reducible refine D.ax ?_); refine L.mf U U U U ?_) | ((with_reducible refine D.aw ?_); first | refine K.sq (AW.regL ?_) | refine AW.ret ?_) | with_reducible refine K.tN ?_ | with_reducible refine K.r1 (by with_unfolding_all rfl) (by with_unfolding_all rfl) ?_)
  simp [tupV, V.wk, V.wks]
theorem count_c (t : Tm) (at_ : Int) (ht : t.full < 549755813888) (hix : ∀ p ∈ t.vars 0, 0 ≤ p.1 ∧ p.1 < 1099511627776) : PC E 120 [.agg t.view, .i at_] (.i (cnt at_ (t.vars 0))) :=
  count_w t at_ ht fun p hp => by have := hix p hp; omega
end Go.Ab
namespace Go.Ab
open Go Go.Proofs
set_option maxRecDepth 100000
set_option linter.all false
theorem liftCb (fr by_ i bl : Int) (hi : 0 ≤ i ∧ i < 549755813888) (hb : 0 ≤ bl ∧ bl < 1099511627776) (hy : -1099511627776 ≤ by_ ∧ by_ < 1099511627776) : AC E 185 [.i i, .i bl, .ptr 0 0, .ptr 1 0] ⟨2, [(0, .var [.i fr]), (1, .var [.i by_])]⟩ (.agg (liftG fr by_ i bl).view) ⟨2, [(0, .var [.i fr]), (1, .var [.i by_])]⟩ := by
  have hv := tvar_c
  refine AC.mk Tryz.func185 rfl rfl rfl rfl rfl (Nat.le_of_ble_eq_true rfl) ?_
  repeat' (first | ((with_reducible refine D.nil ?_); refine AX.nilL ?_) | ((with_reducible refine D.load ?_); refine L.ldb U U U U U U ?_) | ((with_reducible refine D.move ?_); refine L.mv U U U ?_) | ((with_reducible refine D.assign ?_); refine L.asg U U U ?_) | ((with_reducible refine D.bin ?_); first | refine L.ad U U U U (by omega) ?_ | refine L.sb U U U U (by omega) ?_ | refine L.bn U U U U U ?_) | ((with_reducible refine D.call ?_); refine L.c2 (hv _) U U U U ?_) | ((with_reducible refine D.alloc ?_); refine L.al U U U ?_) | ((with_reducible refine D.store ?_); refine L.st U U U U U U U U U ?_) | ((with_reducible refine D.aw ?_); first | refine K.sq (AW.regL ?_) | refine K.sq (K.sq ?_) | refine AW.regL ?_ | refine AW.condS U (fun h => ?_) (fun h => ?_) | refine AW.skip ?_ | refine AW.ret ?_) | with_reducible refine K.tN ?_)
  · have h' : fr ≤ i - bl := by simpa using h
    (exact K.n2 [some 0, some 1] U U U U U (by (repeat' (first | exact trivial | refine And.intro ?_ ?_ | refine ⟨_, U, _, U, _, U, ?_⟩ | exact VLe.refl _)); done) U (by simp [tupV, V.wk, V.wks, constV, Ty.view, Tm.view, liftG, h']))
  · have h' : ¬ fr ≤ i - bl := by simpa using h
    (exact K.n2 [some 0, some 1] U U U U U (by (repeat' (first | exact trivial | refine And.intro ?_ ?_ | refine ⟨_, U, _, U, _, U, ?_⟩ | exact VLe.refl _)); done) U (by simp [tupV, V.wk, V.wks, constV, Ty.view, Tm.view, liftG, h']))

theorem liftRe1 (fr by_ : Int) (hy : -1099511627776 ≤ by_ ∧ by_ < 1099511627776) : ∀ (n : Nat) (t : Tm) (bl : Int), t.full ≤ n → n < 549755813888 → 0 ≤ bl → bl + n < 549755813888 → (∀ p ∈ t.vars bl, 0 ≤ p.1 ∧ p.1 < 549755813888) → AC E 184 [.agg t.view, .i bl, .ptr 0 0, .ptr 1 0] ⟨4, [(0, .var [.fn (.func 185) [] [.ptr 2 0, .ptr 3 0]]), (1, .var [.fn (.func 184) [] [.ptr 0 0, .ptr 1 0]]), (2, .var [.i fr]), (3, .var [.i by_])]⟩ (.agg (t.re (liftG fr by_) bl).view) ⟨4, [(0, .var [.fn (.func 185) [] [.ptr 2 0, .ptr 3 0]]), (1, .var [.fn (.func 184) [] [.ptr 0 0, .ptr 1 0]]), (2, .var [.i fr]), (3, .var [.i by_])]⟩ := by
  intro n
  induction n with
  | zero => intro t bl h; have := t.full_pos; omega
  | succ n ih =>
  intro t bl hsz hb hbl hbn hix
  have hsz' := Tm.full_eq t
  have hlen := lsum_len Tm.full Tm.full_pos t.args
  have hv := Tm.vars_eq bl t
  have hre := Tm.re_eq (liftG fr by_) bl t
  have hi : t.kind = 1 → 0 ≤ t.index ∧ t.index < 549755813888 := fun h => by simpa using hix (t.index, bl) (by rw [hv]; simp [h])
  have hcb : t.kind = 1 → _ := fun h => liftCb fr by_ t.index bl (hi h) (by omega) hy
  have hown := ownTy_c _ t.ty (Nat.le_refl _) (by omega)
  refine AC.mk Tryz.func184 rfl rfl rfl rfl rfl (Nat.le_of_ble_eq_true rfl) ?_
  repeat' (first | ((with_reducible refine D.nil ?_); first | refine AX.nilL ?_ | refine AX.nilD (by kernel_rfl) ?_) | ((with_reducible refine D.load ?_); refine L.ldb U U U U U U ?_) | ((with_reducible refine D.move ?_); refine L.mv U U U ?_) | ((with_reducible refine D.fieldAddr ?_); refine L.fab U U U U U ?_) | ((with_reducible refine D.assign ?_); refine L.asg U U U ?_) | ((with_reducible refine D.bin ?_); first | refine L.ad U U U U (by omega) ?_ | refine L.bn U U U U U ?_) | ((with_reducible refine D.call ?_); first | refine L.lnt U U U U ?_ | (apply L.cv2 (hcb (by simpa using h)) [2, 3] 0 rfl; rfl; rfl; rfl; rfl; rfl; rfl; rfl; (focus ((repeat' (first | exact trivial | refine And.intro ?_ ?_ | refine ⟨_, U, _, U, _, U, ?_⟩ | exact VLe.refl _)); done)); rfl; rfl; rfl; rfl) | refine L.c2 (hown) U U U U ?_) | ((with_reducible refine D.box ?_); refine L.bx U U U U ?_) | ((with_reducible refine D.alloc ?_); refine L.al U U U ?_) | ((with_reducible refine D.store ?_); refine L.st U U U U U U U U U ?_) | ((with_reducible refine D.ax ?_); refine L.bd U U U U U ?_) | ((with_reducible refine D.aw ?_); first | refine K.sq (AW.regL ?_) | refine K.sq (AW.regD mixed (by kernel_rfl) ?_) | refine K.sq (K.sq ?_) | refine AW.regL ?_ | refine AW.condS U (fun h => ?_) (fun h => ?_) | refine AW.skip ?_ | refine AW.ret ?_) | with_reducible refine K.tN ?_ | with_reducible refine K.tR ?_)
  · have hk : t.kind = 1 := by simpa using h
    (exact K.n2 [some 0, some 1, some 2, some 3] U U U U U (by (repeat' (first | exact trivial | refine And.intro ?_ ?_ | refine ⟨_, U, _, U, _, U, ?_⟩ | exact VLe.refl _)); done) U (by simp [tupV, V.wk, V.wks, constV, Ty.view, Tm.view, hre, hk]))
  all_goals
    rename_i hk1
    have hup : up t.kind bl ≤ bl + 1 := by simp only [up]; split <;> omega
    have hup0 : 0 ≤ up t.kind bl := by simp only [up]; split <;> omega
    have hk1' : ¬ t.kind = 1 := by simpa using hk1
    refine AW.range t.args.length (fun m => True)
      (fun m => ([(1, .i (up t.kind bl)), (3, .ptr 1 0), (6, .ptr 5 0), (7, .ptr 6 0), (32, .s .tm t.args), (33, .i t.args.length), (34, .i m)], ⟨8, [(0, .var [.fn (.func 185) [] [.ptr 2 0, .ptr 3 0]]), (1, .var [.fn (.func 184) [] [.ptr 0 0, .ptr 1 0]]), (2, .var [.i fr]), (3, .var [.i by_]), (4, .var t.view), (5, .var [.i 0, .i 0, .i 0, .slice .nil (.t .ty []), .slice .nil (.t .tm [])]), (6, .var [.i t.kind, .i t.index, .i t.ty.kind, .s .ty t.ty.args, .slice (.own 7) (.t .tm ((t.args.take m).map (Tm.re (liftG fr by_) (up t.kind bl))))]), (7, .row)]⟩))
      (by omega) (fun m => rfl) (fun m => rfl) rfl trivial ?_ ?_ ?_
    · simp_all only [beq_iff_eq, beq_eq_false_iff_ne, ne_eq]
      exact (Weak.mk [some 0, some 1, some 2, some 3, some 4, some 5, some 6, none] _ _ _ U U U U (by (repeat' (first | exact trivial | refine And.intro ?_ ?_ | refine ⟨_, U, _, U, ?_⟩ | exact VLe.refl _ | exact VLe.of_eq (by simp [Sto.upd, up, *]))); done) (by (repeat' (first | exact trivial | exact Or.inl U | refine And.intro ?_ ?_ | refine ⟨_, U, _, U, _, U, ?_⟩ | exact VLe.refl _)); done))
    · intro m hm hP
      have hs2 := lsum_mem Tm.full (List.getElem_mem hm)
      have hix' : ∀ p ∈ (t.args[m]).vars (up t.kind bl), 0 ≤ p.1 ∧ p.1 < 549755813888 := fun p hp => hix p (by rw [hv]; exact List.mem_append_right _ (List.mem_flatMap.2 ⟨_, List.getElem_mem hm, hp⟩))
      have hc := ih t.args[m] (up t.kind bl) (by omega) (by omega) hup0 (by omega) hix'
      repeat' (first | ((with_reducible refine D.nil ?_); first | refine AX.nilL ?_ | refine AX.nilD (by kernel_rfl) ?_) | ((with_reducible refine D.load ?_); first | refine L.ldb U U U U U U ?_ | refine L.lda U U U U U ?_) | ((with_reducible refine D.move ?_); refine L.mv U U U ?_) | ((with_reducible refine D.fieldAddr ?_); refine L.fab U U U U U ?_) | ((with_reducible refine D.call ?_); first | refine L.apt U U U U U U (by first | exact trivial | exact ⟨rfl, trivial⟩) U U (by first | omega | (simp; omega)) ?_ | (apply L.cv2 (hc) [0, 1, 2, 3] 0 rfl; rfl; rfl; rfl; rfl; rfl; rfl; rfl; (focus ((repeat' (first | exact trivial | refine And.intro ?_ ?_ | refine ⟨_, U, _, U, _, U, ?_⟩ | exact VLe.refl _)); done)); rfl; rfl; rfl; rfl)) | ((with_reducible refine D.alloc ?_); refine L.al U U U ?_) | ((with_reducible refine D.store ?_); refine L.st U U U U U U U U U ?_) | ((with_reducible refine D.indexAddr ?_); refine L.ixt _ U U U U U U U (by assumption) ?_) | ((with_reducible refine D.ax ?_); refine L.bs1 U U U U U U U U ?_) | ((with_reducible refine D.aw ?_); first | refine K.sq (AW.regL ?_) | refine AW.regD mixed (by kernel_rfl) ?_) | with_reducible refine K.tN ?_ | with_reducible refine K.bN ?_)
      refine ⟨rfl, trivial, ?_⟩
      exact (Weak.mk [some 0, some 1, some 2, some 3, some 4, some 5, some 6, some 9] _ _ _ U U U U (by (repeat' (first | exact trivial | refine And.intro ?_ ?_ | refine ⟨_, U, _, U, ?_⟩ | exact VLe.refl _)); done) (by (repeat' (first | exact trivial | exact Or.inr ⟨_, U, rfl⟩ | refine And.intro ?_ ?_ | refine ⟨_, U, _, U, _, U, ?_⟩ | exact VLe.refl _ | exact VLe.of_eq (by simp [Sto.upd, map_take _ _ _ hm]))); done))
    · intro hP
      repeat' (first | ((with_reducible refine D.nil ?_); refine AX.nilL ?_) | ((with_reducible refine D.load ?_); refine L.ldb U U U U U U ?_) | ((with_reducible refine D.store ?_); refine L.st U U U U U U U U U ?_) | ((with_reducible refine D.aw ?_); first | refine K.sq (AW.regL ?_) | refine AW.ret ?_) | with_reducible refine K.tN ?_)
      (exact K.n2 [some 0, some 1, some 2, some 3] U U U U U (by (repeat' (first | exact trivial | refine And.intro ?_ ?_ | refine ⟨_, U, _, U, _, U, ?_⟩ | exact VLe.refl _)); done) U (by simp [tupV, V.wk, V.wks, constV, Ty.view, Tm.view, hre, hk1']))
theorem liftRe (fr by_ : Int) (hy : -1099511627776 ≤ by_ ∧ by_ < 1099511627776) (t : Tm) (ht : t.full < 274877906944) (hix : ∀ p ∈ t.vars 0, 0 ≤ p.1 ∧ p.1 < 549755813888) : AC E 161 [.agg t.view, .fn (.func 185) [] [.ptr 0 0, .ptr 1 0]] ⟨2, [(0, .var [.i fr]), (1, .var [.i by_])]⟩ (.agg (t.re (liftG fr by_) 0).view) ⟨2, [(0, .var [.i fr]), (1, .var [.i by_])]⟩ := by
  have hc := liftRe1 fr by_ hy _ t 0 (Nat.le_refl _) (by omega) (by omega) (by omega) hix
  refine AC.mk Tryz.func161 rfl rfl rfl rfl rfl (Nat.le_of_ble_eq_true rfl) ?_
  repeat' (first | ((with_reducible refine D.nil ?_); refine AX.nilL ?_) | ((with_reducible refine D.load ?_); refine L.ldb U U U U U U ?_) | ((with_reducible refine D.call ?_); (apply L.cv2 (hc) [3, 5, 0, 1] 0 rfl; rfl; rfl; rfl; rfl; rfl; rfl; rfl; (focus ((repeat' (first | exact trivial | refine And.intro ?_ ?_ | refine ⟨_, U, _, U, _, U, ?_⟩ | exact VLe.refl _)); done)); rfl; rfl; rfl; rfl)) | ((with_reducible refine D.box ?_); refine L.bx U U U U ?_) | ((with_reducible refine D.alloc ?_); refine L.al U U U ?_) | ((with_reducible refine D.store ?_); refine L.st U U U U U U U U U ?_) | ((with_reducible refine D.ax ?_); refine L.mf U U U U ?_) | ((with_reducible refine D.aw ?_); first | refine K.sq (AW.regL ?_) | refine AW.ret ?_) | with_reducible refine K.tN ?_)
  (exact K.n2 [some 0, some 1] U U U U U (by (repeat' (first | exact trivial | refine And.intro ?_ ?_ | refine ⟨_, U, _, U, _, U, ?_⟩ | exact VLe.refl _)); done) U (by simp [tupV, V.wk, V.wks, constV, Ty.view, Tm.view, hc]))

theorem lift_c (t : Tm) (fr by_ : Int) (hy : -1099511627776 ≤ by_ ∧ by_ < 1099511627776) (ht : t.full < 274877906944) (hix : ∀ p ∈ t.vars 0, 0 ≤ p.1 ∧ p.1 < 549755813888) : PC E 163 [.agg t.view, .i fr, .i by_] (.agg (t.re (liftG fr by_) 0).view) := by
  have hc := liftRe fr by_ hy t ht hix
  refine AC.mk Tryz.func163 rfl rfl rfl rfl rfl (Nat.le_of_ble_eq_true rfl) ?_
  repeat' (first | ((with_reducible refine D.nil ?_); refine AX.nilL ?_) | ((with_reducible refine D.load ?_); refine L.ldb U U U U U U ?_) | ((with_reducible refine D.call ?_); (apply L.cb2 (hc) [1, 2] 0 rfl; rfl; rfl; rfl; rfl; rfl; rfl; (focus ((repeat' (first | exact trivial | refine And.intro ?_ ?_ | refine ⟨_, U, _, U, _, U, ?_⟩ | exact VLe.refl _)); done)); rfl; rfl; rfl; rfl)) | ((with_reducible refine D.box ?_); refine L.bx U U U U ?_) | ((with_reducible refine D.alloc ?_); refine L.al U U U ?_) | ((with_reducible refine D.store ?_); refine L.st U U U U U U U U U ?_) | ((with_reducible refine D.ax ?_); refine L.mf U U U U ?_) | ((with_reducible refine D.aw ?_); first | refine K.sq (AW.regL ?_) | refine AW.ret ?_) | with_reducible refine K.tN ?_ | with_reducible refine K.r1 (by with_unfolding_all rfl) (by with_unfolding_all rfl) ?_)
  simp [tupV, V.wk, V.wks, constV, Ty.view, Tm.view]
theorem putCb (at_ : Int) (s : Tm) (i bl : Int) (hat : 0 ≤ at_ ∧ at_ < 549755813888) (hs : s.full < 274877906944) (hsi : ∀ p ∈ s.vars 0, 0 ≤ p.1 ∧ p.1 < 549755813888) (hi : 0 ≤ i ∧ i < 9223372036854775808) (hb : 0 ≤ bl ∧ bl < 549755813888) : AC E 162 [.i i, .i bl, .ptr 0 0, .ptr 1 0] ⟨2, [(0, .var [.i at_]), (1, .var s.view)]⟩ (.agg (putG at_ s i bl).view) ⟨2, [(0, .var [.i at_]), (1, .var s.view)]⟩ := by
  have hv := tvar_c
  have hl := lift_c s 0 (at_ + bl) (by omega) hs hsi
  refine AC.mk Tryz.func162 rfl rfl rfl rfl rfl (Nat.le_of_ble_eq_true rfl) ?_
  repeat' (first | ((with_reducible refine D.nil ?_); refine AX.nilL ?_) | ((with_reducible refine D.load ?_); refine L.ldb U U U U U U ?_) | ((with_reducible refine D.move ?_); refine L.mv U U U ?_) | ((with_reducible refine D.assign ?_); refine L.asg U U U ?_) | ((with_reducible refine D.bin ?_); first | refine L.ad U U U U (by omega) ?_ | refine L.sb U U U U (by omega) ?_ | refine L.bn U U U U U ?_) | ((with_reducible refine D.call ?_); first | refine L.c2 (hv _) U U U U ?_ | refine L.c2 (hl) U U U U ?_) | ((with_reducible refine D.alloc ?_); refine L.al U U U ?_) | ((with_reducible refine D.store ?_); refine L.st U U U U U U U U U ?_) | ((with_reducible refine D.aw ?_); first | ((with_reducible refine D.blk ?_); refine AW.block ?_) | refine K.sq (AW.regL ?_) | refine K.sq (K.sq ?_) | refine AW.regL ?_ | refine AW.condS U (fun h => ?_) (fun h => ?_) | refine AW.skip ?_ | refine AW.ret ?_) | with_reducible refine K.tN ?_ | with_reducible refine K.bN ?_ | with_reducible refine K.tR ?_ | with_reducible refine K.bR ?_)
  · have h' : i - bl = at_ := by simpa using h
    (exact K.n2 [some 0, some 1] U U U U U (by (repeat' (first | exact trivial | refine And.intro ?_ ?_ | refine ⟨_, U, _, U, _, U, ?_⟩ | exact VLe.refl _)); done) U (by simp [tupV, V.wk, V.wks, constV, Ty.view, Tm.view, putG, h']))
  · rename_i h0
    have h0' : ¬ i - bl = at_ := by simpa using h0
    have h' : at_ < i - bl := by simpa using h
    (exact K.n2 [some 0, some 1] U U U U U (by (repeat' (first | exact trivial | refine And.intro ?_ ?_ | refine ⟨_, U, _, U, _, U, ?_⟩ | exact VLe.refl _)); done) U (by simp [tupV, V.wk, V.wks, constV, Ty.view, Tm.view, putG, h', h0']))
  · rename_i h0
    have h0' : ¬ i - bl = at_ := by simpa using h0
    have h' : ¬ at_ < i - bl := by simpa using h
    (exact K.n2 [some 0, some 1] U U U U U (by (repeat' (first | exact trivial | refine And.intro ?_ ?_ | refine ⟨_, U, _, U, _, U, ?_⟩ | exact VLe.refl _)); done) U (by simp [tupV, V.wk, V.wks, constV, Ty.view, Tm.view, putG, h', h0']))

theorem putRe1 (at_ : Int) (s : Tm) (hat : 0 ≤ at_ ∧ at_ < 549755813888) (hs : s.full < 274877906944) (hsi : ∀ p ∈ s.vars 0, 0 ≤ p.1 ∧ p.1 < 549755813888) : ∀ (n : Nat) (t : Tm) (bl : Int), t.full ≤ n → n < 549755813888 → 0 ≤ bl → bl + n < 549755813888 → (∀ p ∈ t.vars bl, 0 ≤ p.1 ∧ p.1 < 9223372036854775808) → AC E 184 [.agg t.view, .i bl, .ptr 0 0, .ptr 1 0] ⟨4, [(0, .var [.fn (.func 162) [] [.ptr 2 0, .ptr 3 0]]), (1, .var [.fn (.func 184) [] [.ptr 0 0, .ptr 1 0]]), (2, .var [.i at_]), (3, .var s.view)]⟩ (.agg (t.re (putG at_ s) bl).view) ⟨4, [(0, .var [.fn (.func 162) [] [.ptr 2 0, .ptr 3 0]]), (1, .var [.fn (.func 184) [] [.ptr 0 0, .ptr 1 0]]), (2, .var [.i at_]), (3, .var s.view)]⟩ := by
  intro n
  induction n with
  | zero => intro t bl h; have := t.full_pos; omega
  | succ n ih =>
  intro t bl hsz hb hbl hbn hix
  have hsz' := Tm.full_eq t
  have hlen := lsum_len Tm.full Tm.full_pos t.args
  have hv := Tm.vars_eq bl t
  have hre := Tm.re_eq (putG at_ s) bl t
  have hi : t.kind = 1 → 0 ≤ t.index ∧ t.index < 9223372036854775808 := fun h => by simpa using hix (t.index, bl) (by rw [hv]; simp [h])
  have hcb : t.kind = 1 → _ := fun h => putCb at_ s t.index bl hat hs hsi (hi h) (by omega)
  have hown := ownTy_c _ t.ty (Nat.le_refl _) (by omega)
  refine AC.mk Tryz.func184 rfl rfl rfl rfl rfl (Nat.le_of_ble_eq_true rfl) ?_
  repeat' (first | ((with_reducible refine D.nil ?_); first | refine AX.nilL ?_ | refine AX.nilD (by kernel_rfl) ?_) | ((with_reducible refine D.load ?_); refine L.ldb U U U U U U ?_) | ((with_reducible refine D.move ?_); refine L.mv U U U ?_) | ((with_reducible refine D.fieldAddr ?_); refine L.fab U U U U U ?_) | ((with_reducible refine D.assign ?_); refine L.asg U U U ?_) | ((with_reducible refine D.bin ?_); first | refine L.ad U U U U (by omega) ?_ | refine L.bn U U U U U ?_) | ((with_reducible refine D.call ?_); first | refine L.lnt U U U U ?_ | (apply L.cv2 (hcb (by simpa using h)) [2, 3] 0 rfl; rfl; rfl; rfl; rfl; rfl; rfl; rfl; (focus ((repeat' (first | exact trivial | refine And.intro ?_ ?_ | refine ⟨_, U, _, U, _, U, ?_⟩ | exact VLe.refl _)); done)); rfl; rfl; rfl; rfl) | refine L.c2 (hown) U U U U ?_) | ((with_reducible refine D.box ?_); refine L.bx U U U U ?_) | ((with_reducible refine D.alloc ?_); refine L.al U U U ?_) | ((with_reducible refine D.store ?_); refine L.st U U U U U U U U U ?_) | ((with_reducible refine D.ax ?_); refine L.bd U U U U U ?_) | ((with_reducible refine D.aw ?_); first | refine K.sq (AW.regL ?_) | refine K.sq (AW.regD mixed (by kernel_rfl) ?_) | refine K.sq (K.sq ?_) | refine AW.regL ?_ | refine AW.condS U (fun h => ?_) (fun h => ?_) | refine AW.skip ?_ | refine AW.ret ?_) | with_reducible refine K.tN ?_ | with_reducible refine K.tR ?_)
  · have hk : t.kind = 1 := by simpa using h
    (exact K.n2 [some 0, some 1, some 2, some 3] U U U U U (by (repeat' (first | exact trivial | refine And.intro ?_ ?_ | refine ⟨_, U, _, U, _, U, ?_⟩ | exact VLe.refl _)); done) U (by simp [tupV, V.wk, V.wks, constV, Ty.view, Tm.view, hre, hk]))
  all_goals
    rename_i hk1
    have hup : up t.kind bl ≤ bl + 1 := by simp only [up]; split <;> omega
    have hup0 : 0 ≤ up t.kind bl := by simp only [up]; split <;> omega
    have hk1' : ¬ t.kind = 1 := by simpa using hk1
    refine AW.range t.args.length (fun m => True)
      (fun m => ([(1, .i (up t.kind bl)), (3, .ptr 1 0), (6, .ptr 5 0), (7, .ptr 6 0), (32, .s .tm t.args), (33, .i t.args.length), (34, .i m)], ⟨8, [(0, .var [.fn (.func 162) [] [.ptr 2 0, .ptr 3 0]]), (1, .var [.fn (.func 184) [] [.ptr 0 0, .ptr 1 0]]), (2, .var [.i at_]), (3, .var s.view), (4, .var t.view), (5, .var [.i 0, .i 0, .i 0, .slice .nil (.t .ty []), .slice .nil (.t .tm [])]), (6, .var [.i t.kind, .i t.index, .i t.ty.kind, .s .ty t.ty.args, .slice (.own 7) (.t .tm ((t.args.take m).map (Tm.re (putG at_ s) (up t.kind bl))))]), (7, .row)]⟩))
      (by omega) (fun m => rfl) (fun m => rfl) rfl trivial ?_ ?_ ?_
    · simp_all only [beq_iff_eq, beq_eq_false_iff_ne, ne_eq]
      exact (Weak.mk [some 0, some 1, some 2, some 3, some 4, some 5, some 6, none] _ _ _ U U U U (by (repeat' (first | exact trivial | refine And.intro ?_ ?_ | refine ⟨_, U, _, U, ?_⟩ | exact VLe.refl _ | exact VLe.of_eq (by simp [Sto.upd, up, *]))); done) (by (repeat' (first | exact trivial | exact Or.inl U | refine And.intro ?_ ?_ | refine ⟨_, U, _, U, _, U, ?_⟩ | exact VLe.refl _)); done))
    · intro m hm hP
      have hs2 := lsum_mem Tm.full (List.getElem_mem hm)
      have hix' : ∀ p ∈ (t.args[m]).vars (up t.kind bl), 0 ≤ p.1 ∧ p.1 < 9223372036854775808 := fun p hp => hix p (by rw [hv]; exact List.mem_append_right _ (List.mem_flatMap.2 ⟨_, List.getElem_mem hm, hp⟩))
      have hc := ih t.args[m] (up t.kind bl) (by omega) (by omega) hup0 (by omega) hix'
      repeat' (first | ((with_reducible refine D.nil ?_); first | refine AX.nilL ?_ | refine AX.nilD (by kernel_rfl) ?_) | ((with_reducible refine D.load ?_); first | refine L.ldb U U U U U U ?_ | refine L.lda U U U U U ?_) | ((with_reducible refine D.move ?_); refine L.mv U U U ?_) | ((with_reducible refine D.fieldAddr ?_); refine L.fab U U U U U ?_) | ((with_reducible refine D.call ?_); first | refine L.apt U U U U U U (by first | exact trivial | exact ⟨rfl, trivial⟩) U U (by first | omega | (simp; omega)) ?_ | (apply L.cv2 (hc) [0, 1, 2, 3] 0 rfl; rfl; rfl; rfl; rfl; rfl; rfl; rfl; (focus ((repeat' (first | exact trivial | refine And.intro ?_ ?_ | refine ⟨_, U, _, U, _, U, ?_⟩ | exact VLe.refl _)); done)); rfl; rfl; rfl; rfl)) | ((with_reducible refine D.alloc ?_); refine L.al U U U ?_) | ((with_reducible refine D.store ?_); refine L.st U U U U U U U U U ?_) | ((with_reducible refine D.indexAddr ?_); refine L.ixt _ U U U U U U U (by assumption) ?_) | ((with_reducible refine D.ax ?_); refine L.bs1 U U U U U U U U ?_) | ((with_reducible refine D.aw ?_); first | refine K.sq (AW.regL ?_) | refine AW.regD mixed (by kernel_rfl) ?_) | with_reducible refine K.tN ?_ | with_reducible refine K.bN ?_)
      refine ⟨rfl, trivial, ?_⟩
      exact (Weak.mk [some 0, some 1, some 2, some 3, some 4, some 5, some 6, some 9] _ _ _ U U U U (by (repeat' (first | exact trivial | refine And.intro ?_ ?_ | refine ⟨_, U, _, U, ?_⟩ | exact VLe.refl _)); done) (by (repeat' (first | exact trivial | exact Or.inr ⟨_, U, rfl⟩ | refine And.intro ?_ ?_ | refine ⟨_, U, _, U, _, U, ?_⟩ | exact VLe.refl _ | exact VLe.of_eq (by simp [Sto.upd, map_take _ _ _ hm]))); done))
    · intro hP
      repeat' (first | ((with_reducible refine D.nil ?_); refine AX.nilL ?_) | ((with_reducible refine D.load ?_); refine L.ldb U U U U U U ?_) | ((with_reducible refine D.store ?_); refine L.st U U U U U U U U U ?_) | ((with_reducible refine D.aw ?_); first | refine K.sq (AW.regL ?_) | refine AW.ret ?_) | with_reducible refine K.tN ?_)
      (exact K.n2 [some 0, some 1, some 2, some 3] U U U U U (by (repeat' (first | exact trivial | refine And.intro ?_ ?_ | refine ⟨_, U, _, U, _, U, ?_⟩ | exact VLe.refl _)); done) U (by simp [tupV, V.wk, V.wks, constV, Ty.view, Tm.view, hre, hk1']))
theorem putRe (at_ : Int) (s : Tm) (hat : 0 ≤ at_ ∧ at_ < 549755813888) (hs : s.full < 274877906944) (hsi : ∀ p ∈ s.vars 0, 0 ≤ p.1 ∧ p.1 < 549755813888) (t : Tm) (ht : t.full < 274877906944) (hix : ∀ p ∈ t.vars 0, 0 ≤ p.1 ∧ p.1 < 9223372036854775808) : AC E 161 [.agg t.view, .fn (.func 162) [] [.ptr 0 0, .ptr 1 0]] ⟨2, [(0, .var [.i at_]), (1, .var s.view)]⟩ (.agg (t.re (putG at_ s) 0).view) ⟨2, [(0, .var [.i at_]), (1, .var s.view)]⟩ := by
  have hc := putRe1 at_ s hat hs hsi _ t 0 (Nat.le_refl _) (by omega) (by omega) (by omega) hix
  refine AC.mk Tryz.func161 rfl rfl rfl rfl rfl (Nat.le_of_ble_eq_true rfl) ?_
  repeat' (first | ((with_reducible refine D.nil ?_); refine AX.nilL ?_) | ((with_reducible refine D.load ?_); refine L.ldb U U U U U U ?_) | ((with_reducible refine D.call ?_); (apply L.cv2 (hc) [3, 5, 0, 1] 0 rfl; rfl; rfl; rfl; rfl; rfl; rfl; rfl; (focus ((repeat' (first | exact trivial | refine And.intro ?_ ?_ | refine ⟨_, U, _, U, _, U, ?_⟩ | exact VLe.refl _)); done)); rfl; rfl; rfl; rfl)) | ((with_reducible refine D.box ?_); refine L.bx U U U U ?_) | ((with_reducible refine D.alloc ?_); refine L.al U U U ?_) | ((with_reducible refine D.store ?_); refine L.st U U U U U U U U U ?_) | ((with_reducible refine D.ax ?_); refine L.mf U U U U ?_) | ((with_reducible refine D.aw ?_); first | refine K.sq (AW.regL ?_) | refine AW.ret ?_) | with_reducible refine K.tN ?_)
  (exact K.n2 [some 0, some 1] U U U U U (by (repeat' (first | exact trivial | refine And.intro ?_ ?_ | refine ⟨_, U, _, U, _, U, ?_⟩ | exact VLe.refl _)); done) U (by simp [tupV, V.wk, V.wks, constV, Ty.view, Tm.view, hc]))

theorem put_w (t : Tm) (at_ : Int) (s : Tm) (hat : 0 ≤ at_ ∧ at_ < 549755813888) (hs : s.full < 274877906944) (hsi : ∀ p ∈ s.vars 0, 0 ≤ p.1 ∧ p.1 < 549755813888) (ht : t.full < 274877906944) (hix : ∀ p ∈ t.vars 0, 0 ≤ p.1 ∧ p.1 < 9223372036854775808) : PC E 121 [.agg t.view, .i at_, .agg s.view] (.agg (t.re (putG at_ s) 0).view) := by
  have hc := putRe at_ s hat hs hsi t ht hix
  refine AC.mk Tryz.func121 rfl rfl rfl rfl rfl (Nat.le_of_ble_eq_true rfl) ?_
  repeat' (first | ((with_reducible refine D.nil ?_); refine AX.nilL ?_) | ((with_reducible refine D.load ?_); refine L.ldb U U U U U U ?_) | ((with_reducible refine D.call ?_); (apply L.cb2 (hc) [1, 2] 0 rfl; rfl; rfl; rfl; rfl; rfl; rfl; (focus ((repeat' (first | exact trivial | refine And.intro ?_ ?_ | refine ⟨_, U, _, U, _, U, ?_⟩ | exact VLe.refl _)); done)); rfl; rfl; rfl; rfl)) | ((with_reducible refine D.box ?_); refine L.bx U U U U ?_) | ((with_reducible refine D.alloc ?_); refine L.al U U U ?_) | ((with_reducible refine D.store ?_); refine L.st U U U U U U U U U ?_) | ((with_reducible refine D.ax ?_); refine L.mf U U U U ?_) | ((with_reducible refine D.aw ?_); first | refine K.sq (AW.regL ?_) | refine AW.ret ?_) | with_reducible refine K.tN ?_ | with_reducible refine K.r1 (by with_unfolding_all rfl) (by with_unfolding_all rfl) ?_)
  simp [tupV, V.wk, V.wks, constV, Ty.view, Tm.view]
theorem put_c (t : Tm) (at_ : Int) (s : Tm) (hat : 0 ≤ at_ ∧ at_ < 549755813888) (hs : s.full < 274877906944) (hsi : ∀ p ∈ s.vars 0, 0 ≤ p.1 ∧ p.1 < 549755813888) (ht : t.full < 274877906944) (hix : ∀ p ∈ t.vars 0, 0 ≤ p.1 ∧ p.1 < 549755813888) : PC E 121 [.agg t.view, .i at_, .agg s.view] (.agg (t.re (putG at_ s) 0).view) :=
  put_w t at_ s hat hs hsi ht fun p hp => by have := hix p hp; omega
end Go.Ab
namespace Go.Ab
open Go Go.Proofs
set_option maxRecDepth 100000
set_option linter.all false
theorem mod_c (n k : Int) (hk : 0 < k ∧ k < 1099511627776) : PC E 84 [.i n, .i k] (.i (modI n k)) := by
  have hb1 := Int.tmod_lt_of_pos n hk.1
  have hb2 := tmod_lo n k hk.1
  refine AC.mk Tryz.func84 rfl rfl rfl rfl rfl (Nat.le_of_ble_eq_true rfl) ?_
  repeat' (first | ((with_reducible refine D.nil ?_); refine AX.nilL ?_) | ((with_reducible refine D.move ?_); refine L.mv U U U ?_) | ((with_reducible refine D.assign ?_); refine L.asg U U U ?_) | ((with_reducible refine D.bin ?_); first | refine L.ad U U U U (by omega) ?_ | refine L.rm U U U U (by omega) ?_) | ((with_reducible refine D.aw ?_); first | refine K.sq (AW.regL ?_) | refine AW.ret ?_) | with_reducible refine K.tN ?_ | with_reducible refine K.r1 (by with_unfolding_all rfl) (by with_unfolding_all rfl) ?_)
  rfl
theorem next_c (d : Dk) (n : Int) (hd : d.ok) (hn : n < 1099511627776) : AC E 37 [.ptr 0 0, .i n] ⟨1, [(0, .var d.cells)]⟩ (.i (d.next n).1) ⟨1, [(0, .var (d.next n).2.cells)]⟩ := by
  obtain ⟨hd1, hd2⟩ := hd
  have hm : ¬ n < 1 → ∀ x, PC E 84 [.i x, .i n] (.i (modI x n)) := fun h x => mod_c x n ⟨by omega, hn⟩
  refine AC.mk Tryz.func37 rfl rfl rfl rfl rfl (Nat.le_of_ble_eq_true rfl) ?_
  repeat' (first | ((with_reducible refine D.nil ?_); first | refine AX.nilL ?_ | refine AX.nilD (by kernel_rfl) ?_) | ((with_reducible refine D.load ?_); first | refine L.ldb U U U U U U ?_ | refine L.lda U U U U U ?_ | refine AX.sk U U ?_) | ((with_reducible refine D.move ?_); first | refine L.mv U U U ?_ | refine AX.sk U U ?_ | ((fail_if_success refine AX.wt U ?_); refine AX.gs U U (fun _ => trivial) (fun h => ?_) (fun h => ?_))) | ((with_reducible refine D.fieldAddr ?_); first | refine L.fab U U U U U ?_ | refine AX.sk U U ?_) | ((with_reducible refine D.assign ?_); refine L.asg U U U ?_) | ((with_reducible refine D.bin ?_); first | refine L.ad U U U U (by omega) ?_ | refine L.bn U U U U U ?_ | refine AX.sk U U ?_) | ((with_reducible refine D.call ?_); first | refine L.lnt U U U U ?_ | refine L.c2 (hm (by simp_all) _) U U U U ?_ | refine AX.sk U U ?_) | ((with_reducible refine D.store ?_); refine L.st U U U U U U U U U ?_) | ((with_reducible refine D.indexAddr ?_); refine L.ixt _ U U U U U U U (by (simp at *; omega)) ?_) | ((with_reducible refine D.pick ?_); refine L.pk U U U U ?_) | ((with_reducible refine D.ax ?_); first | refine L.nc U U U U ?_ | refine AX.sk U U ?_) | ((with_reducible refine D.aw ?_); first | refine K.sq (AW.regL ?_) | refine K.sq (AW.regD mixed (by kernel_rfl) ?_) | refine K.sq (K.sq ?_) | refine AW.regD mixed (by kernel_rfl) ?_ | refine AW.condT U ?_ | refine AW.condS U (fun h => ?_) (fun h => ?_) | refine AW.skip ?_ | refine AW.ret ?_) | with_reducible refine K.tN ?_ | with_reducible refine K.tR ?_)
  · have h' : n < 1 := by simpa using h
    have e : d.next n = (0, d) := dif_pos (.inl h')
    (exact K.n2 [some 0] U U U U U (by (repeat' (first | exact trivial | refine And.intro ?_ ?_ | refine ⟨_, U, _, U, _, U, ?_⟩ | exact VLe.of_eq (by simp [Sto.upd, e, Dk.cells]))); done) U (by simp [tupV, V.wk, V.wks, constV, Ty.view, Tm.view, e, Dk.cells]))
  · have h' : d.l.length ≤ d.at_ := by simp at h; omega
    have e : d.next n = (0, d) := dif_pos (.inr h')
    (exact K.n2 [some 0] U U U U U (by (repeat' (first | exact trivial | refine And.intro ?_ ?_ | refine ⟨_, U, _, U, _, U, ?_⟩ | exact VLe.of_eq (by simp [Sto.upd, e, Dk.cells]))); done) U (by simp [tupV, V.wk, V.wks, constV, Ty.view, Tm.view, e, Dk.cells]))
  · rename_i h0
    have h' : ¬ (n < 1 ∨ d.l.length ≤ d.at_) := by simp at h h0; omega
    have e : d.next n = (modI (d.l[d.at_]'(by omega)) n, ⟨d.l, d.at_ + 1⟩) := dif_neg h'
    (exact K.n2 [some 0] U U U U U (by (repeat' (first | exact trivial | refine And.intro ?_ ?_ | refine ⟨_, U, _, U, _, U, ?_⟩ | exact VLe.of_eq (by simp [Sto.upd, e, Dk.cells]))); done) U (by simp [tupV, V.wk, V.wks, constV, Ty.view, Tm.view, e, Dk.cells]))
theorem few_c (l : List Int) : PC E 6 [.s .int l] (.bool (decide (l.length ≤ 500))) := by
  refine AC.mk Tryz.func6 rfl rfl rfl rfl rfl (Nat.le_of_ble_eq_true rfl) ?_
  repeat' (first | ((with_reducible refine D.nil ?_); refine AX.nilL ?_) | ((with_reducible refine D.move ?_); refine L.mv U U U ?_) | ((with_reducible refine D.assign ?_); refine L.asg U U U ?_) | ((with_reducible refine D.bin ?_); refine L.bn U U U U U ?_) | ((with_reducible refine D.call ?_); refine L.lnt U U U U ?_) | ((with_reducible refine D.aw ?_); first | refine K.sq (AW.regL ?_) | refine AW.ret ?_) | with_reducible refine K.tN ?_ | with_reducible refine K.r1 (by with_unfolding_all rfl) (by with_unfolding_all rfl) ?_)
  simp [tupV, V.wk, V.wks]
  omega
theorem new_c (l : List Int) : AC E 7 [.s .int l] ⟨0, []⟩ (.ptr 0 0) ⟨1, [(0, .var (Dk.mk l 0).cells)]⟩ := by
  refine AC.mk Tryz.func7 rfl rfl rfl rfl rfl (Nat.le_of_ble_eq_true rfl) ?_
  repeat' (first | ((with_reducible refine D.nil ?_); refine AX.nilL ?_) | ((with_reducible refine D.move ?_); refine L.mv U U U ?_) | ((with_reducible refine D.assign ?_); refine L.asg U U U ?_) | ((with_reducible refine D.box ?_); refine L.bx U U U U ?_) | ((with_reducible refine D.ax ?_); refine L.bd U U U U U ?_) | ((with_reducible refine D.aw ?_); first | refine K.sq (AW.regL ?_) | refine AW.ret ?_) | with_reducible refine K.tN ?_)
  (exact K.n2 [some 0] U U U U U (by (repeat' (first | exact trivial | refine And.intro ?_ ?_ | refine ⟨_, U, _, U, _, U, ?_⟩ | exact VLe.refl _)); done) U (by simp [tupV, V.wk, V.wks, constV, Ty.view, Tm.view, Dk.cells]))
theorem substPut_c (t : Tm) (at_ : Int) (s : Tm) (ht : t.full < 274877906944) (hs : s.full < 274877906944) : PC E 92 [.agg t.view, .i at_, .agg s.view] (.tup [.agg (if putErr t at_ s = 0 then t.re (putG at_ s) 0 else noTm).view, .i (putErr t at_ s)]) := by
  have h1 := size_c t (by omega)
  have h2 := size_c s (by omega)
  have h3 := within_c at_
  have h4 := near_c t (by omega)
  have h5 := near_c s (by omega)
  have h6 : t.err = 0 → t.near = true → _ := fun h hn => count_c t at_ (by omega) fun p hp => by have := near_lt h hn p hp; omega
  have h7 : t.err = 0 → t.near = true → s.err = 0 → s.near = true → 0 ≤ at_ ∧ at_ ≤ 4096 → _ := fun h hn h' hn' ha => put_c t at_ s (by omega) hs (near_lt h' hn') ht (near_lt h hn)
  have hn1 := num_le t
  have hn2 := num_le s
  have hle := t.size_le_full
  have hcl := cnt_le at_ (t.vars 0)
  have hvl := t.vars_len 0
  have hm := mul_bd (cnt at_ (t.vars 0)) (s.num - 1) (by omega) (by omega)
  have hm' : -9223372036854775808 ≤ (cnt at_ (t.vars 0) : Int) * (s.num - 1) ∧ (cnt at_ (t.vars 0) : Int) * (s.num - 1) ≤ 9223372036854775807 := by omega
  refine AC.mk Tryz.func92 rfl rfl rfl rfl rfl (Nat.le_of_ble_eq_true rfl) ?_
  repeat' (first | ((with_reducible refine D.nil ?_); refine AX.nilL ?_) | ((with_reducible refine D.load ?_); first | refine L.ldb U U U U U U ?_ | refine AX.sk U U ?_ | ((fail_if_success refine AX.wt U ?_); refine AX.gs U U (fun _ => trivial) (fun h => ?_) (fun h => ?_))) | ((with_reducible refine D.move ?_); refine L.mv U U U ?_) | ((with_reducible refine D.assign ?_); refine L.asg U U U ?_) | ((with_reducible refine D.bin ?_); first | refine L.ad U U U U (by omega) ?_ | refine L.sb U U U U (by omega) ?_ | refine L.ml U U U U (by first | omega | assumption) ?_ | refine L.bn U U U U U ?_) | ((with_reducible refine D.call ?_); first | refine L.c2 (h1) U U U U ?_ | refine L.c2 (h2) U U U U ?_ | refine L.c2 (h3) U U U U ?_ | refine L.c2 (h4) U U U U ?_ | refine L.c2 (h5) U U U U ?_ | refine L.c2 (h6 (by simp_all) (by simp_all)) U U U U ?_ | refine L.c2 (h7 (by simp_all) (by simp_all) (by simp_all) (by simp_all) (by simp_all)) U U U U ?_ | refine AX.sk U U ?_) | ((with_reducible refine D.extract ?_); refine L.ex U U U U ?_) | ((with_reducible refine D.box ?_); refine L.bx U U U U ?_) | ((with_reducible refine D.alloc ?_); refine L.al U U U ?_) | ((with_reducible refine D.store ?_); refine L.st U U U U U U U U U ?_) | ((with_reducible refine D.not ?_); first | refine L.nt U U U ?_ | refine AX.sk U U ?_) | ((with_reducible refine D.pick ?_); refine L.pk U U U U ?_) | ((with_reducible refine D.ax ?_); refine L.bd U U U U U ?_) | ((with_reducible refine D.aw ?_); first | refine K.sq (AW.regL ?_) | refine K.sq (K.sq ?_) | refine AW.regL ?_ | refine AW.condT U ?_ | refine AW.condS U (fun h => ?_) (fun h => ?_) | refine AW.skip ?_ | refine AW.ret ?_) | with_reducible refine K.tN ?_ | with_reducible refine K.tR ?_ | with_reducible refine K.r1 (by with_unfolding_all rfl) (by with_unfolding_all rfl) ?_)
  all_goals first
    | (simp_all [tupV, V.wk, V.wks, constV, Ty.view, Tm.view, putErr, noTm, Tm.num]; done)
    | skip
  rename_i h0
  have h' : ¬ (0 ≤ at_ ∧ at_ ≤ 4096) := by intro hc; simp [hc] at h
  have h0' : t.err = 0 := by simpa using h0
  have e : putErr t at_ s = 1 := by simp only [putErr, h0', ne_eq, not_true_eq_false, if_false, h', not_false_eq_true, if_true]
  simp [tupV, V.wk, V.wks, constV, Ty.view, Tm.view, e, noTm]
end Go.Ab
namespace Go.Ab
open Go Go.Proofs
set_option maxRecDepth 100000
set_option linter.all false
theorem type_c : ∀ (n : Nat) (k : Int) (d : Dk), k ≤ n → n ≤ 20 → -100 ≤ k → d.ok → AC E 44 [.ptr 0 0, .i k] ⟨1, [(0, .var d.cells)]⟩ (.agg (d.type k.toNat).1.view) ⟨1, [(0, .var (d.type k.toNat).2.cells)]⟩ := by
  intro n
  induction n with
  | zero =>
    intro k d hk hn hk' hd
    have h1 := next_c d 7 hd (by omega)
    have e := Dk.type_eq k d
    refine AC.mk Tryz.func44 rfl rfl rfl rfl rfl (Nat.le_of_ble_eq_true rfl) ?_
    repeat' (first | ((with_reducible refine D.nil ?_); refine AX.nilL ?_) | ((with_reducible refine D.move ?_); refine L.mv U U U ?_) | ((with_reducible refine D.assign ?_); refine L.asg U U U ?_) | ((with_reducible refine D.bin ?_); first | refine L.sb U U U U (by omega) ?_ | refine L.bn U U U U U ?_) | ((with_reducible refine D.call ?_); first | (apply L.cb2 (h1) [0] 0 rfl; rfl; rfl; rfl; rfl; rfl; rfl; (focus ((repeat' (first | exact trivial | refine And.intro ?_ ?_ | refine ⟨_, U, _, U, _, U, ?_⟩ | exact VLe.refl _)); done)); rfl; rfl; rfl; rfl) | refine L.c2 (nat_c) U U U U ?_ | refine L.c2 (list_c) U U U U ?_ | refine L.c2 (unit_c) U U U U ?_) | ((with_reducible refine D.alloc ?_); refine L.al U U U ?_) | ((with_reducible refine D.store ?_); refine L.st U U U U U U U U U ?_) | ((with_reducible refine D.aw ?_); first | ((with_reducible refine D.blk ?_); refine AW.block ?_) | refine K.sq (AW.regL ?_) | refine K.sq (K.sq ?_) | refine AW.regL ?_ | refine AW.condT U ?_ | refine AW.condS U (fun h => ?_) (fun h => ?_) | refine AW.skip ?_ | refine AW.ret ?_) | with_reducible refine K.tN ?_ | with_reducible refine K.bN ?_ | with_reducible refine K.tR ?_ | with_reducible refine K.bR ?_)
    all_goals first
      | (exfalso; simp at *; omega)
      | (simp only [beq_iff_eq, beq_eq_false_iff_ne, ne_eq, decide_eq_true_eq, decide_eq_false_iff_not, gt_iff_lt] at *
         simp [*] at e
         (exact K.n2 [some 0] U U U U U (by (repeat' (first | exact trivial | refine And.intro ?_ ?_ | refine ⟨_, U, _, U, _, U, ?_⟩ | exact VLe.of_eq (by simp [Sto.upd, e]))); done) U (by simp [tupV, V.wk, V.wks, constV, Ty.view, Tm.view, e])))
  | succ n ih =>
    intro k d hk hn hk' hd
    have h1 := next_c d 7 hd (by omega)
    have e := Dk.type_eq k d
    have i1 : k > 0 → _ := fun h => ih (k - 1) (d.next 7).2 (by omega) (by omega) (by omega) (Dk.next_ok hd 7)
    have i2 : k > 0 → _ := fun h => ih (k - 1) ((d.next 7).2.type (k - 1).toNat).2 (by omega) (by omega) (by omega) (Dk.type_ok _ _ (Dk.next_ok hd 7))
    have i3 := two_c ((d.next 7).2.type (k - 1).toNat).1 ((((d.next 7).2.type (k - 1).toNat).2).type (k - 1).toNat).1 (Dk.type_small _ _ (by omega)) (Dk.type_small _ _ (by omega))
    have i4 := fun_c ((d.next 7).2.type (k - 1).toNat).1 ((((d.next 7).2.type (k - 1).toNat).2).type (k - 1).toNat).1 (Dk.type_small _ _ (by omega)) (Dk.type_small _ _ (by omega))
    refine AC.mk Tryz.func44 rfl rfl rfl rfl rfl (Nat.le_of_ble_eq_true rfl) ?_
    repeat' (first | ((with_reducible refine D.nil ?_); refine AX.nilL ?_) | ((with_reducible refine D.move ?_); refine L.mv U U U ?_) | ((with_reducible refine D.assign ?_); refine L.asg U U U ?_) | ((with_reducible refine D.bin ?_); first | refine L.sb U U U U (by omega) ?_ | refine L.bn U U U U U ?_) | ((with_reducible refine D.call ?_); first | (apply L.cb2 (h1) [0] 0 rfl; rfl; rfl; rfl; rfl; rfl; rfl; (focus ((repeat' (first | exact trivial | refine And.intro ?_ ?_ | refine ⟨_, U, _, U, _, U, ?_⟩ | exact VLe.refl _)); done)); rfl; rfl; rfl; rfl) | refine L.c2 (nat_c) U U U U ?_ | refine L.c2 (list_c) U U U U ?_ | refine L.c2 (unit_c) U U U U ?_ | (apply L.cb2 (i1 (by simp_all)) [0] 0 rfl; rfl; rfl; rfl; rfl; rfl; rfl; (focus ((repeat' (first | exact trivial | refine And.intro ?_ ?_ | refine ⟨_, U, _, U, _, U, ?_⟩ | exact VLe.refl _)); done)); rfl; rfl; rfl; rfl) | (apply L.cb2 (i2 (by simp_all)) [0] 0 rfl; rfl; rfl; rfl; rfl; rfl; rfl; (focus ((repeat' (first | exact trivial | refine And.intro ?_ ?_ | refine ⟨_, U, _, U, _, U, ?_⟩ | exact VLe.refl _)); done)); rfl; rfl; rfl; rfl) | refine L.c2 (i3) U U U U ?_ | refine L.c2 (i4) U U U U ?_) | ((with_reducible refine D.alloc ?_); refine L.al U U U ?_) | ((with_reducible refine D.store ?_); refine L.st U U U U U U U U U ?_) | ((with_reducible refine D.aw ?_); first | ((with_reducible refine D.blk ?_); refine AW.block ?_) | refine K.sq (AW.regL ?_) | refine K.sq (K.sq ?_) | refine AW.regL ?_ | refine AW.condT U ?_ | refine AW.condS U (fun h => ?_) (fun h => ?_) | refine AW.skip ?_ | refine AW.ret ?_) | with_reducible refine K.tN ?_ | with_reducible refine K.bN ?_ | with_reducible refine K.tR ?_ | with_reducible refine K.bR ?_)
    all_goals
      simp only [beq_iff_eq, beq_eq_false_iff_ne, ne_eq, decide_eq_true_eq, decide_eq_false_iff_not, gt_iff_lt] at *
      simp [*] at e
      (exact K.n2 [some 0] U U U U U (by (repeat' (first | exact trivial | refine And.intro ?_ ?_ | refine ⟨_, U, _, U, _, U, ?_⟩ | exact VLe.of_eq (by simp [Sto.upd, e]))); done) U (by simp [tupV, V.wk, V.wks, constV, Ty.view, Tm.view, e]))
end Go.Ab
namespace Go.Ab
open Go Go.Proofs
set_option maxRecDepth 100000
set_option linter.all false
theorem numeral_c (n : Nat) (hn : n < 100000) : PC E 115 [.i n] (.agg (numT n).view) := by
  have h1 := n_c 4 [] (by simp)
  refine AC.mk Tryz.func115 rfl rfl rfl rfl rfl (Nat.le_of_ble_eq_true rfl) ?_
  repeat' (first | ((with_reducible refine D.nil ?_); refine AX.nilL ?_) | ((with_reducible refine D.call ?_); refine L.c2 (h1) U U U U ?_) | ((with_reducible refine D.alloc ?_); refine L.al U U U ?_) | ((with_reducible refine D.store ?_); refine L.st U U U U U U U U U ?_) | ((with_reducible refine D.aw ?_); refine K.sq (AW.regL ?_)) | with_reducible refine K.tN ?_)
  refine K.sq (AW.down n (fun m => m ≤ n)
    (fun m => ([(0, .i m), (2, .ptr 0 0), (3, .ptr 1 0)], ⟨2, [(0, .var [.i 0, .i 0, .i 0, .slice .nil (.t .ty []), .slice .nil (.t .tm [])]), (1, .var (numT (n - m)).view)]⟩))
    (by omega) (fun m => rfl) rfl (Nat.le_refl _) ?_ ?_ ?_)
  · simp only [Nat.sub_self]
    exact (Weak.mk [some 0, some 1] _ _ _ U U U U (by (repeat' (first | exact trivial | refine And.intro ?_ ?_ | refine ⟨_, U, _, U, ?_⟩ | exact VLe.refl _)); done) (by (repeat' (first | exact trivial | refine And.intro ?_ ?_ | refine ⟨_, U, _, U, _, U, ?_⟩ | exact VLe.refl _)); done))
  · intro m hm hP
    have e : numT (n - m) = .mk 5 0 (.mk 0 []) [numT (n - (m + 1))] := by rw [show n - m = (n - (m + 1)) + 1 by omega]; rfl
    repeat' (first | ((with_reducible refine D.nil ?_); refine AX.nilL ?_) | ((with_reducible refine D.load ?_); refine L.ldb U U U U U U ?_) | ((with_reducible refine D.store ?_); refine L.st U U U U U U U U U ?_) | ((with_reducible refine D.ax ?_); first | refine L.bd U U U U U ?_ | refine L.bs1 U U U U U (EC.fold_of U) U U ?_) | ((with_reducible refine D.aw ?_); refine AW.regL ?_) | with_reducible refine K.bN ?_)
    refine ⟨rfl, by omega, ?_⟩
    simp only [e]
    exact (Weak.mk [some 0, some 1] _ _ _ U U U U (by (repeat' (first | exact trivial | refine And.intro ?_ ?_ | refine ⟨_, U, _, U, ?_⟩ | exact VLe.refl _)); done) (by (repeat' (first | exact trivial | refine And.intro ?_ ?_ | refine ⟨_, U, _, U, _, U, ?_⟩ | exact VLe.refl _ | exact VLe.any _ _)); done))
  · intro _
    repeat' (first | ((with_reducible refine D.nil ?_); refine AX.nilL ?_) | ((with_reducible refine D.load ?_); refine L.ldb U U U U U U ?_) | ((with_reducible refine D.store ?_); refine L.st U U U U U U U U U ?_) | ((with_reducible refine D.aw ?_); first | refine K.sq (AW.regL ?_) | refine AW.ret ?_) | with_reducible refine K.tN ?_ | with_reducible refine K.r1 (by with_unfolding_all rfl) (by with_unfolding_all rfl) ?_)
    simp [tupV, V.wk, V.wks, constV, Ty.view, Tm.view]
theorem number_c (n : Int) : PC E 87 [.i n] (.tup [.agg (if 0 ≤ n ∧ n < 4096 then numT n.toNat else noTm).view, .i (if n < 0 then 1 else if n ≥ 4096 then 4 else 0)]) := by
  have h1 : ¬ n < 0 → ¬ n ≥ 4096 → PC E 115 [.i n] _ := fun h h' => by
    have := numeral_c n.toNat (by omega)
    rw [show ((n.toNat : Nat) : Int) = n by omega] at this
    exact this
  refine AC.mk Tryz.func87 rfl rfl rfl rfl rfl (Nat.le_of_ble_eq_true rfl) ?_
  repeat' (first | ((with_reducible refine D.nil ?_); refine AX.nilL ?_) | ((with_reducible refine D.move ?_); refine L.mv U U U ?_) | ((with_reducible refine D.assign ?_); refine L.asg U U U ?_) | ((with_reducible refine D.bin ?_); refine L.bn U U U U U ?_) | ((with_reducible refine D.call ?_); refine L.c2 (h1 (by simp_all) (by simp_all)) U U U U ?_) | ((with_reducible refine D.alloc ?_); refine L.al U U U ?_) | ((with_reducible refine D.store ?_); refine L.st U U U U U U U U U ?_) | ((with_reducible refine D.ax ?_); refine L.bd U U U U U ?_) | ((with_reducible refine D.aw ?_); first | refine K.sq (AW.regL ?_) | refine K.sq (K.sq ?_) | refine AW.regL ?_ | refine AW.condS U (fun h => ?_) (fun h => ?_) | refine AW.skip ?_ | refine AW.ret ?_) | with_reducible refine K.tN ?_ | with_reducible refine K.tR ?_ | with_reducible refine K.r1 (by with_unfolding_all rfl) (by with_unfolding_all rfl) ?_)
  · have h' : n < 0 := by simpa using h
    have h2 : ¬ (0 ≤ n ∧ n < 4096) := by omega
    simp [tupV, V.wk, V.wks, constV, Ty.view, Tm.view, noTm, h', h2]
  · rename_i h0
    have h' : ¬ n < 0 := by simpa using h0
    have h'' : n ≥ 4096 := by simpa using h
    have h2 : ¬ (0 ≤ n ∧ n < 4096) := by omega
    simp [tupV, V.wk, V.wks, constV, Ty.view, Tm.view, noTm, h', h'', h2]
  · rename_i h0
    have h' : ¬ n < 0 := by simpa using h0
    have h'' : ¬ n ≥ 4096 := by simpa using h
    have h2 : 0 ≤ n ∧ n < 4096 := by omega
    simp [tupV, V.wk, V.wks, constV, Ty.view, Tm.view, noTm, h', h'', h2]
theorem longer_c (g l : List Ty) (h : g.length + l.length < 1000000) : PC E 47 [.s .ty g, .s .ty l] (.s .ty (g ++ l)) := by
  refine AC.mk Tryz.func47 rfl rfl rfl rfl rfl (Nat.le_of_ble_eq_true rfl) ?_
  repeat' (first | ((with_reducible refine D.nil ?_); refine AX.nilL ?_) | ((with_reducible refine D.move ?_); refine L.mv U U U ?_) | ((with_reducible refine D.assign ?_); refine L.asg U U U ?_) | ((with_reducible refine D.call ?_); refine L.apt U U U U U U (by first | exact trivial | exact ⟨rfl, trivial⟩) U U (by first | omega | (simp; omega)) ?_) | ((with_reducible refine D.aw ?_); first | refine K.sq (AW.regL ?_) | refine AW.ret ?_) | with_reducible refine K.tN ?_ | with_reducible refine K.r1 (by with_unfolding_all rfl) (by with_unfolding_all rfl) ?_)
  simp [tupV, V.wk, V.wks, constV, Ty.view, Tm.view]
theorem lam_c (t : Tm) (ht : t.full < 549755813888) : PC E 88 [.agg t.view] (.agg (Tm.mk 2 0 (.mk 1 []) [t]).view) := by
  have h1 := t_c 2 (.mk 1 []) [t] (by simp; omega) (by simp [Ty.size_eq])
  refine AC.mk Tryz.func88 rfl rfl rfl rfl rfl (Nat.le_of_ble_eq_true rfl) ?_
  repeat' (first | ((with_reducible refine D.nil ?_); first | refine AX.nilL ?_ | refine AX.nilD (by kernel_rfl) ?_) | ((with_reducible refine D.load ?_); refine L.ldb U U U U U U ?_) | ((with_reducible refine D.call ?_); first | refine L.c2 (nat_c) U U U U ?_ | refine L.c2 (h1) U U U U ?_) | ((with_reducible refine D.box ?_); refine L.bx U U U U ?_) | ((with_reducible refine D.alloc ?_); refine L.al U U U ?_) | ((with_reducible refine D.store ?_); refine L.st U U U U U U U U U ?_) | ((with_reducible refine D.ax ?_); refine L.bs1 U U U U U (EC.fold_of U) U U ?_) | ((with_reducible refine D.aw ?_); first | refine K.sq (AW.regL ?_) | refine K.sq (AW.regD mixed (by kernel_rfl) ?_) | refine AW.ret ?_) | with_reducible refine K.tN ?_ | with_reducible refine K.r1 (by with_unfolding_all rfl) (by with_unfolding_all rfl) ?_)
  simp [tupV, V.wk, V.wks, constV, Ty.view, Tm.view]
end Go.Ab
namespace Go.Ab
open Go Go.Proofs
set_option maxRecDepth 100000
set_option linter.all false
theorem num_c (n : Int) : PC E 48 [.i n] (.agg (numOf n).view) := by
  have h1 := number_c n
  refine AC.mk Tryz.func48 rfl rfl rfl rfl rfl (Nat.le_of_ble_eq_true rfl) ?_
  repeat' (first | ((with_reducible refine D.nil ?_); refine AX.nilL ?_) | ((with_reducible refine D.load ?_); refine L.ldb U U U U U U ?_) | ((with_reducible refine D.move ?_); refine L.mv U U U ?_) | ((with_reducible refine D.assign ?_); refine L.asg U U U ?_) | ((with_reducible refine D.call ?_); refine L.c2 (h1) U U U U ?_) | ((with_reducible refine D.extract ?_); refine L.ex U U U U ?_) | ((with_reducible refine D.alloc ?_); refine L.al U U U ?_) | ((with_reducible refine D.store ?_); refine L.st U U U U U U U U U ?_) | ((with_reducible refine D.aw ?_); first | refine K.sq (AW.regL ?_) | refine AW.ret ?_) | with_reducible refine K.tN ?_ | with_reducible refine K.r1 (by with_unfolding_all rfl) (by with_unfolding_all rfl) ?_)
  simp [tupV, V.wk, V.wks, constV, Ty.view, Tm.view, numOf]
theorem rec_c (b f n : Tm) (h : b.full + f.full + n.full < 549755813888) : PC E 89 [.agg b.view, .agg f.view, .agg n.view] (.agg (Tm.mk 6 0 (.mk 1 []) [b, f, n]).view) := by
  have h1 := t_c 6 (.mk 1 []) [b, f, n] (by simp; omega) (by simp [Ty.size_eq])
  refine AC.mk Tryz.func89 rfl rfl rfl rfl rfl (Nat.le_of_ble_eq_true rfl) ?_
  repeat' (first | ((with_reducible refine D.nil ?_); first | refine AX.nilL ?_ | refine AX.nilD (by kernel_rfl) ?_) | ((with_reducible refine D.load ?_); refine L.ldb U U U U U U ?_) | ((with_reducible refine D.call ?_); first | refine L.c2 (nat_c) U U U U ?_ | refine L.c2 (h1) U U U U ?_) | ((with_reducible refine D.box ?_); refine L.bx U U U U ?_) | ((with_reducible refine D.alloc ?_); refine L.al U U U ?_) | ((with_reducible refine D.store ?_); refine L.st U U U U U U U U U ?_) | ((with_reducible refine D.ax ?_); refine L.bs3 U U U U U (EC.fold_of U) U U U (EC.fold_of U) U U U (EC.fold_of U) U U ?_) | ((with_reducible refine D.aw ?_); first | refine K.sq (AW.regL ?_) | refine K.sq (AW.regD mixed (by kernel_rfl) ?_) | refine AW.ret ?_) | with_reducible refine K.tN ?_ | with_reducible refine K.r1 (by with_unfolding_all rfl) (by with_unfolding_all rfl) ?_)
  simp [tupV, V.wk, V.wks, constV, Ty.view, Tm.view]
end Go.Ab
namespace Go.Ab
open Go Go.Proofs
set_option maxRecDepth 100000
set_option linter.all false
theorem plus_c : PC E 50 [] (.agg plusT.view) := by
  have h0 := var_c 0
  have h1 := var_c 1
  have h2 := n_c 5 [vT 0] (by simp [Tm.full, Tm.fulls, Ty.size, Ty.sizes, vT])
  have h3 := lam_c (sT (vT 0)) (by simp [Tm.full, Tm.fulls, Ty.size, Ty.sizes, vT, sT])
  have h4 := lam_c (lamT (sT (vT 0))) (by simp [Tm.full, Tm.fulls, Ty.size, Ty.sizes, vT, sT, lamT])
  have h5 := rec_c (vT 1) addF (vT 0) (by simp [Tm.full, Tm.fulls, Ty.size, Ty.sizes, vT, sT, lamT, addF])
  have h6 := lam_c (recT (vT 1) addF (vT 0)) (by simp [Tm.full, Tm.fulls, Ty.size, Ty.sizes, vT, sT, lamT, addF, recT])
  have h7 := lam_c (lamT (recT (vT 1) addF (vT 0))) (by simp [Tm.full, Tm.fulls, Ty.size, Ty.sizes, vT, sT, lamT, addF, recT])
  refine AC.mk Tryz.func50 rfl rfl rfl rfl rfl (Nat.le_of_ble_eq_true rfl) ?_
  repeat' (first | ((with_reducible refine D.nil ?_); refine AX.nilL ?_) | ((with_reducible refine D.call ?_); first | refine L.c2 (h0) U U U U ?_ | refine L.c2 (h1) U U U U ?_ | refine L.c2 (h2) U U U U ?_ | refine L.c2 (h3) U U U U ?_ | refine L.c2 (h4) U U U U ?_ | refine L.c2 (h5) U U U U ?_ | refine L.c2 (h6) U U U U ?_ | refine L.c2 (h7) U U U U ?_) | ((with_reducible refine D.alloc ?_); refine L.al U U U ?_) | ((with_reducible refine D.store ?_); refine L.st U U U U U U U U U ?_) | ((with_reducible refine D.ax ?_); refine L.bs1 U U U U U (EC.fold_of U) U U ?_) | ((with_reducible refine D.aw ?_); first | refine K.sq (AW.regL ?_) | refine AW.ret ?_) | with_reducible refine K.tN ?_ | with_reducible refine K.r1 (by with_unfolding_all rfl) (by with_unfolding_all rfl) ?_)
  rfl
theorem pred_c : PC E 90 [] (.agg predT.view) := by
  have h0 := var_c 0
  have h1 := var_c 1
  have h2 := n_c 4 [] (by simp)
  have h3 := lam_c (vT 1) (by simp [Tm.full, Tm.fulls, Ty.size, Ty.sizes, vT, sT])
  have h4 := lam_c (lamT (vT 1)) (by simp [Tm.full, Tm.fulls, Ty.size, Ty.sizes, vT, sT, lamT])
  have h5 := rec_c zT (lamT (lamT (vT 1))) (vT 0) (by simp [Tm.full, Tm.fulls, Ty.size, Ty.sizes, vT, zT, lamT, addF])
  have h6 := lam_c (recT zT (lamT (lamT (vT 1))) (vT 0)) (by simp [Tm.full, Tm.fulls, Ty.size, Ty.sizes, vT, zT, lamT, addF, recT])
  refine AC.mk Tryz.func90 rfl rfl rfl rfl rfl (Nat.le_of_ble_eq_true rfl) ?_
  repeat' (first | ((with_reducible refine D.nil ?_); refine AX.nilL ?_) | ((with_reducible refine D.call ?_); first | refine L.c2 (h0) U U U U ?_ | refine L.c2 (h1) U U U U ?_ | refine L.c2 (h2) U U U U ?_ | refine L.c2 (h3) U U U U ?_ | refine L.c2 (h4) U U U U ?_ | refine L.c2 (h5) U U U U ?_ | refine L.c2 (h6) U U U U ?_) | ((with_reducible refine D.alloc ?_); refine L.al U U U ?_) | ((with_reducible refine D.store ?_); refine L.st U U U U U U U U U ?_) | ((with_reducible refine D.aw ?_); first | refine K.sq (AW.regL ?_) | refine AW.ret ?_) | with_reducible refine K.tN ?_ | with_reducible refine K.r1 (by with_unfolding_all rfl) (by with_unfolding_all rfl) ?_)
  rfl
theorem sub_c : PC E 51 [] (.agg subT.view) := by
  have h0 := var_c 0
  have h1 := var_c 1
  have hp := pred_c
  have h2 := n_c 3 [predT, vT 0] (by simp [Tm.full, Tm.fulls, Ty.size, Ty.sizes, vT, zT, lamT, predT, recT])
  have h3 := lam_c (apT predT (vT 0)) (by simp [Tm.full, Tm.fulls, Ty.size, Ty.sizes, vT, zT, lamT, predT, recT, apT])
  have h4 := lam_c (lamT (apT predT (vT 0))) (by simp [Tm.full, Tm.fulls, Ty.size, Ty.sizes, vT, zT, lamT, predT, recT, apT])
  have h5 := rec_c (vT 1) subF (vT 0) (by simp [Tm.full, Tm.fulls, Ty.size, Ty.sizes, vT, zT, lamT, predT, recT, apT, subF])
  have h6 := lam_c (recT (vT 1) subF (vT 0)) (by simp [Tm.full, Tm.fulls, Ty.size, Ty.sizes, vT, zT, lamT, predT, recT, apT, subF])
  have h7 := lam_c (lamT (recT (vT 1) subF (vT 0))) (by simp [Tm.full, Tm.fulls, Ty.size, Ty.sizes, vT, zT, lamT, predT, recT, apT, subF])
  refine AC.mk Tryz.func51 rfl rfl rfl rfl rfl (Nat.le_of_ble_eq_true rfl) ?_
  repeat' (first | ((with_reducible refine D.nil ?_); refine AX.nilL ?_) | ((with_reducible refine D.call ?_); first | refine L.c2 (h0) U U U U ?_ | refine L.c2 (h1) U U U U ?_ | refine L.c2 (hp) U U U U ?_ | refine L.c2 (h2) U U U U ?_ | refine L.c2 (h3) U U U U ?_ | refine L.c2 (h4) U U U U ?_ | refine L.c2 (h5) U U U U ?_ | refine L.c2 (h6) U U U U ?_ | refine L.c2 (h7) U U U U ?_) | ((with_reducible refine D.alloc ?_); refine L.al U U U ?_) | ((with_reducible refine D.store ?_); refine L.st U U U U U U U U U ?_) | ((with_reducible refine D.ax ?_); refine L.bs2 U U U U U (EC.fold_of U) U U U (EC.fold_of U) U U ?_) | ((with_reducible refine D.aw ?_); first | refine K.sq (AW.regL ?_) | refine AW.ret ?_) | with_reducible refine K.tN ?_ | with_reducible refine K.r1 (by with_unfolding_all rfl) (by with_unfolding_all rfl) ?_)
  rfl
theorem appMake_c : ∀ (f : Tm) (l : List Tm), f.full + 2 * l.length + (l.map Tm.full).sum < 274877906944 → PC E 49 [.agg f.view, .s .tm l] (.agg (l.foldl apT f).view) := by
  intro f l hl
  have hlen := lsum_len Tm.full Tm.full_pos l
  have hfull : ∀ m, m ≤ l.length → ((l.take m).foldl apT f).full ≤ f.full + 2 * m + ((l.take m).map Tm.full).sum := by
    intro m
    induction m with
    | zero => intro _; simp
    | succ m ih =>
      intro hm
      have h1 := ih (by omega)
      have h2 := lsum_take Tm.full l m (by omega)
      rw [← List.take_append_getElem (by omega : m < l.length), List.foldl_append, List.take_append_getElem (by omega : m < l.length), h2]
      simp only [List.foldl_cons, List.foldl_nil, apT, Tm.full, Tm.fulls, Ty.size, Ty.sizes]
      omega
  refine AC.mk Tryz.func49 rfl rfl rfl rfl rfl (Nat.le_of_ble_eq_true rfl) ?_
  repeat' (first | ((with_reducible refine D.nil ?_); refine AX.nilL ?_) | ((with_reducible refine D.move ?_); refine L.mv U U U ?_) | ((with_reducible refine D.call ?_); refine L.lnt U U U U ?_) | ((with_reducible refine D.box ?_); refine L.bx U U U U ?_) | ((with_reducible refine D.alloc ?_); refine L.al U U U ?_) | ((with_reducible refine D.aw ?_); first | refine K.sq (AW.regL ?_) | refine K.sq (K.sq ?_) | refine AW.regL ?_) | with_reducible refine K.tN ?_)
  refine AW.range l.length (fun m => True)
    (fun m => ([(2, .ptr 0 0), (4, .ptr 1 0), (7, .s .tm l), (8, .i l.length), (9, .i m)], ⟨2, [(0, .var ((l.take m).foldl apT f).view), (1, .var [.i 0, .i 0, .i 0, .slice .nil (.t .ty []), .slice .nil (.t .tm [])])]⟩))
    (by omega) (fun m => rfl) (fun m => rfl) U trivial (Weak.mk [some 0, some 1] _ _ _ U U U U (by (repeat' (first | exact trivial | refine And.intro ?_ ?_ | refine ⟨_, U, _, U, ?_⟩ | exact VLe.refl _)); done) (by (repeat' (first | exact trivial | refine And.intro ?_ ?_ | refine ⟨_, U, _, U, _, U, ?_⟩ | exact VLe.refl _)); done)) ?_ ?_
  · intro m hm hP
    have e : (l.take (m + 1)).foldl apT f = apT ((l.take m).foldl apT f) l[m] := by rw [← List.take_append_getElem hm, List.foldl_append]; rfl
    have h2 := lsum_take_le Tm.full l (m + 1)
    have h3 := lsum_take Tm.full l m hm
    have h4 := hfull m (by omega)
    have h1 := n_c 3 [(l.take m).foldl apT f, l[m]] (by simp only [List.map_cons, List.map_nil, List.sum_cons, List.sum_nil]; omega)
    repeat' (first | ((with_reducible refine D.nil ?_); refine AX.nilL ?_) | ((with_reducible refine D.load ?_); first | refine L.ldb U U U U U U ?_ | refine L.lda U U U U U ?_) | ((with_reducible refine D.call ?_); refine L.c2 (h1) U U U U ?_) | ((with_reducible refine D.alloc ?_); refine L.al U U U ?_) | ((with_reducible refine D.store ?_); refine L.st U U U U U U U U U ?_) | ((with_reducible refine D.indexAddr ?_); refine L.ixt _ U U U U U U U (by assumption) ?_) | ((with_reducible refine D.ax ?_); refine L.bs2 U U U U U (EC.fold_of U) U U U (EC.fold_of U) U U ?_) | ((with_reducible refine D.aw ?_); first | refine K.sq (AW.regL ?_) | refine AW.regL ?_) | with_reducible refine K.tN ?_ | with_reducible refine K.bN ?_)
    refine ⟨rfl, trivial, ?_⟩
    exact (Weak.mk [some 0, some 1] _ _ _ U U U U (by (repeat' (first | exact trivial | refine And.intro ?_ ?_ | refine ⟨_, U, _, U, ?_⟩ | exact VLe.refl _)); done) (by (repeat' (first | exact trivial | refine And.intro ?_ ?_ | refine ⟨_, U, _, U, _, U, ?_⟩ | exact VLe.refl _ | exact VLe.of_eq (by simp [Sto.upd, e, apT]))); done))
  · intro _
    repeat' (first | ((with_reducible refine D.nil ?_); refine AX.nilL ?_) | ((with_reducible refine D.load ?_); refine L.ldb U U U U U U ?_) | ((with_reducible refine D.store ?_); refine L.st U U U U U U U U U ?_) | ((with_reducible refine D.aw ?_); first | refine K.sq (AW.regL ?_) | refine AW.ret ?_) | with_reducible refine K.tN ?_ | with_reducible refine K.r1 (by with_unfolding_all rfl) (by with_unfolding_all rfl) ?_)
    simp [tupV, V.wk, V.wks, constV, Ty.view, Tm.view]
end Go.Ab
namespace Go.Ab
open Go Go.Proofs
set_option maxRecDepth 100000
set_option linter.all false
theorem vars_c (g : List Ty) (t : Ty) (hg : (g.map Ty.size).sum < 1099511627776) : PC E 42 [.s .ty g, .agg t.view] (.s .int (varsT g t)) := by
  have hlen := lsum_len Ty.size Ty.size_pos g
  refine AC.mk Tryz.func42 rfl rfl rfl rfl rfl (Nat.le_of_ble_eq_true rfl) ?_
  repeat' (first | ((with_reducible refine D.nil ?_); refine AX.nilL ?_) | ((with_reducible refine D.move ?_); refine L.mv U U U ?_) | ((with_reducible refine D.assign ?_); refine L.asg U U U ?_) | ((with_reducible refine D.call ?_); refine L.lnt U U U U ?_) | ((with_reducible refine D.box ?_); refine L.bx U U U U ?_) | ((with_reducible refine D.aw ?_); first | refine K.sq (AW.regL ?_) | refine K.sq (K.sq ?_) | refine AW.regL ?_) | with_reducible refine K.tN ?_)
  refine AW.range g.length (fun m => True)
    (fun m => ([(0, .s .ty g), (3, .ptr 0 0), (5, .slice (.own 1) (.t .int (((List.range m).filter fun i => decide (g[g.length - 1 - i]? = some t)).map Int.ofNat))), (8, .i g.length), (9, .i m)], ⟨2, [(0, .var t.view), (1, .row)]⟩))
    (by omega) (fun m => rfl) (fun m => rfl) U trivial (Weak.mk [some 0, none] _ _ _ U U U U (by (repeat' (first | exact trivial | refine And.intro ?_ ?_ | refine ⟨_, U, _, U, ?_⟩ | exact VLe.refl _)); done) (by (repeat' (first | exact trivial | exact Or.inl U | refine And.intro ?_ ?_ | refine ⟨_, U, _, U, _, U, ?_⟩ | exact VLe.refl _)); done)) ?_ ?_
  · intro m hm hP
    have hm2 : g.length - 1 - m < g.length := by omega
    have hs2 := lsum_mem Ty.size (List.getElem_mem hm2)
    have hsame := sameTy_c _ g[g.length - 1 - m] t (Nat.le_refl _) (by omega)
    have hg : g[g.length - 1 - m]? = some g[g.length - 1 - m] := List.getElem?_eq_getElem hm2
    have hfl : (List.filter (fun i => decide (g[g.length - 1 - i]? = some t)) (List.range m)).length ≤ m := by have := List.length_filter_le (fun i => decide (g[g.length - 1 - i]? = some t)) (List.range m); simpa using this
    repeat' (first | ((with_reducible refine D.nil ?_); refine AX.nilL ?_) | ((with_reducible refine D.move ?_); refine L.mv U U U ?_) | ((with_reducible refine D.assign ?_); refine L.asg U U U ?_) | ((with_reducible refine D.bin ?_); refine L.sb U U U U (by omega) ?_) | ((with_reducible refine D.call ?_); refine L.lnt U U U U ?_) | ((with_reducible refine D.aw ?_); first | refine K.sq (AW.regL ?_) | refine K.sq (AW.regD mixed (by kernel_rfl) ?_)) | with_reducible refine K.tN ?_)
    refine L.ixt (g.length - 1 - m) rfl rfl rfl rfl (by omega) rfl rfl (by omega) ?_
    repeat' (first | ((with_reducible refine D.nil ?_); first | refine AX.nilL ?_ | refine AX.nilD (by kernel_rfl) ?_) | ((with_reducible refine D.load ?_); first | refine L.ldb U U U U U U ?_ | refine L.lda U U U U U ?_) | ((with_reducible refine D.move ?_); refine L.mv U U U ?_) | ((with_reducible refine D.assign ?_); refine L.asg U U U ?_) | ((with_reducible refine D.call ?_); first | refine L.apt U U U U U U (by first | exact trivial | exact ⟨rfl, trivial⟩) U U (by first | omega | (simp; omega)) ?_ | refine L.c2 (hsame) U U U U ?_) | ((with_reducible refine D.ax ?_); refine L.bs1 U U U U U (EC.fold_of U) U U ?_) | ((with_reducible refine D.aw ?_); first | refine AW.regL ?_ | refine AW.condS U (fun h => ?_) (fun h => ?_) | refine AW.skip ?_) | with_reducible refine K.tN ?_ | with_reducible refine K.bN ?_)
    · exact ⟨rfl, trivial, (Weak.mk [some 0, some 2] _ _ _ U U U U (by (repeat' (first | exact trivial | refine And.intro ?_ ?_ | refine ⟨_, U, _, U, ?_⟩ | exact VLe.refl _ | exact VLe.of_eq (by simp [Sto.upd, List.range_succ, hg, of_decide_eq_true h]))); done) (by (repeat' (first | exact trivial | exact Or.inr ⟨_, U, rfl⟩ | refine And.intro ?_ ?_ | refine ⟨_, U, _, U, _, U, ?_⟩ | exact VLe.refl _)); done))⟩
    · exact ⟨rfl, trivial, (Weak.mk [some 0, some 1] _ _ _ U U U U (by (repeat' (first | exact trivial | refine And.intro ?_ ?_ | refine ⟨_, U, _, U, ?_⟩ | exact VLe.refl _ | exact VLe.of_eq (by simp [Sto.upd, List.range_succ, hg, of_decide_eq_false h]))); done) (by (repeat' (first | exact trivial | exact Or.inr ⟨_, U, rfl⟩ | refine And.intro ?_ ?_ | refine ⟨_, U, _, U, _, U, ?_⟩ | exact VLe.refl _)); done))⟩
  · intro _
    repeat' (first | ((with_reducible refine D.nil ?_); refine AX.nilL ?_) | ((with_reducible refine D.move ?_); refine L.mv U U U ?_) | ((with_reducible refine D.assign ?_); refine L.asg U U U ?_) | ((with_reducible refine D.aw ?_); first | refine K.sq (AW.regL ?_) | refine AW.ret ?_) | with_reducible refine K.tN ?_ | with_reducible refine K.r1 (by with_unfolding_all rfl) (by with_unfolding_all rfl) ?_)
    simp [tupV, V.wk, V.wks]
    rfl
end Go.Ab
namespace Go.Ab
open Go Go.Proofs
set_option maxRecDepth 100000
set_option linter.all false
theorem shapeTy_c : ∀ (b : Nat) (t : Ty), t.size ≤ b → b < 1099511627776 → PC E 122 [.agg t.view] (.bool t.shape) := by
  intro b
  induction b with
  | zero => intro t h; have := t.size_pos; omega
  | succ b ih =>
  intro t hsz hb
  have hsz' := Ty.size_eq t
  have hlen := lsum_len Ty.size Ty.size_pos t.args
  have hsh := Ty.shape_eq t
  refine AC.mk Tryz.func122 rfl rfl rfl rfl rfl (Nat.le_of_ble_eq_true rfl) ?_
  repeat' (first | ((with_reducible refine D.nil ?_); refine AX.nilL ?_) | ((with_reducible refine D.load ?_); refine L.ldb U U U U U U ?_) | ((with_reducible refine D.fieldAddr ?_); refine L.fab U U U U U ?_) | ((with_reducible refine D.assign ?_); refine L.asg U U U ?_) | ((with_reducible refine D.box ?_); refine L.bx U U U U ?_) | ((with_reducible refine D.aw ?_); first | refine K.sq (AW.regL ?_) | refine K.sq (K.sq ?_) | refine AW.regL ?_) | with_reducible refine K.tN ?_)
  refine AW.cutT (ι := { n : Nat // arT t.kind = some n }) (fun n => ([(1, .ptr 0 0), (3, .i n.1)], ⟨1, [(0, .var t.view)]⟩)) ?_ ?_
  · refine AW.block ?_
    repeat' (first | ((with_reducible refine D.nil ?_); refine AX.nilL ?_) | ((with_reducible refine D.assign ?_); refine L.asg U U U ?_) | ((with_reducible refine D.bin ?_); refine L.bn U U U U U ?_) | ((with_reducible refine D.aw ?_); first | refine K.sq (AW.regL ?_) | refine K.sq (K.sq ?_) | refine AW.regL ?_ | refine AW.condT U ?_ | refine AW.condS U (fun h => ?_) (fun h => ?_) | refine AW.skip ?_ | refine AW.ret ?_) | with_reducible refine K.tN ?_ | with_reducible refine K.bN ?_ | with_reducible refine K.bR ?_ | with_reducible refine K.cR ?_ | with_reducible refine K.r1 (by with_unfolding_all rfl) (by with_unfolding_all rfl) ?_)
    · exact ⟨⟨0, by simp at h; simp [arT, h]⟩, (Weak.mk [some 0] _ _ _ U U U U (by (repeat' (first | exact trivial | refine And.intro ?_ ?_ | refine ⟨_, U, _, U, ?_⟩ | exact VLe.refl _)); done) (by (repeat' (first | exact trivial | refine And.intro ?_ ?_ | refine ⟨_, U, _, U, _, U, ?_⟩ | exact VLe.refl _)); done))⟩
    · exact ⟨⟨0, by simp at h; simp [arT, h]⟩, (Weak.mk [some 0] _ _ _ U U U U (by (repeat' (first | exact trivial | refine And.intro ?_ ?_ | refine ⟨_, U, _, U, ?_⟩ | exact VLe.refl _)); done) (by (repeat' (first | exact trivial | refine And.intro ?_ ?_ | refine ⟨_, U, _, U, _, U, ?_⟩ | exact VLe.refl _)); done))⟩
    · exact ⟨⟨0, by simp at h; simp [arT, h]⟩, (Weak.mk [some 0] _ _ _ U U U U (by (repeat' (first | exact trivial | refine And.intro ?_ ?_ | refine ⟨_, U, _, U, ?_⟩ | exact VLe.refl _)); done) (by (repeat' (first | exact trivial | refine And.intro ?_ ?_ | refine ⟨_, U, _, U, _, U, ?_⟩ | exact VLe.refl _)); done))⟩
    · exact ⟨⟨2, by simp at h; simp [arT, h]⟩, (Weak.mk [some 0] _ _ _ U U U U (by (repeat' (first | exact trivial | refine And.intro ?_ ?_ | refine ⟨_, U, _, U, ?_⟩ | exact VLe.refl _)); done) (by (repeat' (first | exact trivial | refine And.intro ?_ ?_ | refine ⟨_, U, _, U, _, U, ?_⟩ | exact VLe.refl _)); done))⟩
    · exact ⟨⟨2, by simp at h; simp [arT, h]⟩, (Weak.mk [some 0] _ _ _ U U U U (by (repeat' (first | exact trivial | refine And.intro ?_ ?_ | refine ⟨_, U, _, U, ?_⟩ | exact VLe.refl _)); done) (by (repeat' (first | exact trivial | refine And.intro ?_ ?_ | refine ⟨_, U, _, U, _, U, ?_⟩ | exact VLe.refl _)); done))⟩
    · have : t.shape = false := by simp at *; simp [hsh, arT, *]
      simp [this, tupV, constV, V.wk, V.wks]
  rintro ⟨n, hn⟩
  repeat' (first | ((with_reducible refine D.nil ?_); refine AX.nilL ?_) | ((with_reducible refine D.load ?_); refine L.ldb U U U U U U ?_) | ((with_reducible refine D.move ?_); refine L.mv U U U ?_) | ((with_reducible refine D.fieldAddr ?_); refine L.fab U U U U U ?_) | ((with_reducible refine D.assign ?_); refine L.asg U U U ?_) | ((with_reducible refine D.bin ?_); refine L.bn U U U U U ?_) | ((with_reducible refine D.call ?_); refine L.lnt U U U U ?_) | ((with_reducible refine D.aw ?_); first | refine K.sq (AW.regL ?_) | refine K.sq (K.sq ?_) | refine AW.regL ?_ | refine AW.condS U (fun h => ?_) (fun h => ?_) | refine AW.skip ?_ | refine AW.ret ?_) | with_reducible refine K.tN ?_ | with_reducible refine K.tR ?_ | with_reducible refine K.r1 (by with_unfolding_all rfl) (by with_unfolding_all rfl) ?_)
  · have h1 : ¬ t.args.length = n := by simp at h; omega
    have : t.shape = false := by simp [hsh, hn, h1]
    simp [this, tupV, constV, V.wk, V.wks]
  have hn' : t.args.length = n := by simp at h; omega
  refine AW.range t.args.length (fun m => ∀ j (hj : j < t.args.length), j < m → (t.args[j]).shape = true)
    (fun m => ([(1, .ptr 0 0), (21, .s .ty t.args), (22, .i t.args.length), (23, .i m)], ⟨1, [(0, .var t.view)]⟩))
    (by omega) (fun m => rfl) (fun m => rfl) U (by intro j hj h; omega) (Weak.mk [some 0] _ _ _ U U U U (by (repeat' (first | exact trivial | refine And.intro ?_ ?_ | refine ⟨_, U, _, U, ?_⟩ | exact VLe.refl _)); done) (by (repeat' (first | exact trivial | refine And.intro ?_ ?_ | refine ⟨_, U, _, U, _, U, ?_⟩ | exact VLe.refl _)); done)) ?_ ?_
  · intro m hm hP
    have hs2 := lsum_mem Ty.size (List.getElem_mem hm)
    repeat' (first | ((with_reducible refine D.nil ?_); refine AX.nilL ?_) | ((with_reducible refine D.load ?_); first | refine L.ldb U U U U U U ?_ | refine L.lda U U U U U ?_) | ((with_reducible refine D.assign ?_); refine L.asg U U U ?_) | ((with_reducible refine D.call ?_); refine L.c2 (ih _ ?_ ?_) U U U U ?_) | ((with_reducible refine D.alloc ?_); refine L.al U U U ?_) | ((with_reducible refine D.store ?_); refine L.st U U U U U U U U U ?_) | ((with_reducible refine D.indexAddr ?_); refine L.ixt _ U U U U U U U (by assumption) ?_) | ((with_reducible refine D.not ?_); refine L.nt U U U ?_) | ((with_reducible refine D.aw ?_); first | refine K.sq (AW.regL ?_) | refine AW.condS U (fun h => ?_) (fun h => ?_) | refine AW.skip ?_ | refine AW.ret ?_) | with_reducible refine K.tN ?_ | with_reducible refine K.bN ?_ | with_reducible refine K.tR ?_ | with_reducible refine K.bR ?_ | with_reducible refine K.gR ?_ | with_reducible refine K.r1 (by with_unfolding_all rfl) (by with_unfolding_all rfl) ?_ | ((with_reducible show @LE.le Nat _ _ _); omega) | ((with_reducible show @LT.lt Nat _ _ _); omega))
    · have h1 : (t.args[m]).shape = false := by simpa using h
      have : t.shape = false := by rw [hsh, all_not Ty.shape hm h1, Bool.and_false]
      simp [this, tupV, constV, V.wk, V.wks]
    · have hh : (t.args[m]).shape = true := by simpa using h
      exact ⟨rfl, all_step (p := fun t => Ty.shape t = true) hm hP hh, (Weak.mk [some 0] _ _ _ U U U U (by (repeat' (first | exact trivial | refine And.intro ?_ ?_ | refine ⟨_, U, _, U, ?_⟩ | exact VLe.refl _)); done) (by (repeat' (first | exact trivial | refine And.intro ?_ ?_ | refine ⟨_, U, _, U, _, U, ?_⟩ | exact VLe.refl _)); done))⟩
  · intro hP
    have : t.shape = true := by simp only [hsh, hn, hn', all_of Ty.shape t.args fun j hj => hP j hj hj]; simp
    repeat' (first | ((with_reducible refine D.nil ?_); refine AX.nilL ?_) | ((with_reducible refine D.assign ?_); refine L.asg U U U ?_) | ((with_reducible refine D.aw ?_); first | refine K.sq (AW.regL ?_) | refine AW.ret ?_) | with_reducible refine K.tN ?_ | with_reducible refine K.r1 (by with_unfolding_all rfl) (by with_unfolding_all rfl) ?_)
    simp [this, tupV, constV, V.wk, V.wks]
theorem sizeTy_c : ∀ (b : Nat) (t : Ty), t.size ≤ b → b < 1099511627776 → PC E 123 [.agg t.view] (.i t.size) := by
  intro b
  induction b with
  | zero => intro t h; have := t.size_pos; omega
  | succ b ih =>
  intro t hsz hb
  have hsz' := Ty.size_eq t
  have hlen := lsum_len Ty.size Ty.size_pos t.args
  refine AC.mk Tryz.func123 rfl rfl rfl rfl rfl (Nat.le_of_ble_eq_true rfl) ?_
  repeat' (first | ((with_reducible refine D.nil ?_); refine AX.nilL ?_) | ((with_reducible refine D.load ?_); refine L.ldb U U U U U U ?_) | ((with_reducible refine D.move ?_); refine L.mv U U U ?_) | ((with_reducible refine D.fieldAddr ?_); refine L.fab U U U U U ?_) | ((with_reducible refine D.assign ?_); refine L.asg U U U ?_) | ((with_reducible refine D.call ?_); refine L.lnt U U U U ?_) | ((with_reducible refine D.box ?_); refine L.bx U U U U ?_) | ((with_reducible refine D.aw ?_); first | refine K.sq (AW.regL ?_) | refine K.sq (K.sq ?_) | refine AW.regL ?_) | with_reducible refine K.tN ?_)
  refine AW.range t.args.length (fun m => True)
    (fun m => ([(3, .i (1 + ((t.args.take m).map Ty.size).sum)), (7, .s .ty t.args), (8, .i t.args.length), (9, .i m)], ⟨1, [(0, .var t.view)]⟩))
    (by omega) (fun m => rfl) (fun m => rfl) U trivial (Weak.mk [some 0] _ _ _ U U U U (by (repeat' (first | exact trivial | refine And.intro ?_ ?_ | refine ⟨_, U, _, U, ?_⟩ | exact VLe.refl _)); done) (by (repeat' (first | exact trivial | refine And.intro ?_ ?_ | refine ⟨_, U, _, U, _, U, ?_⟩ | exact VLe.refl _)); done)) ?_ ?_
  · intro m hm hP
    have hs1 := lsum_take Ty.size t.args m hm
    have hs2 := lsum_mem Ty.size (List.getElem_mem hm)
    have hs3 := lsum_take_le Ty.size t.args (m + 1)
    have e : (1 + ((((t.args.take (m + 1)).map Ty.size).sum : Nat) : Int)) = 1 + (((t.args.take m).map Ty.size).sum : Nat) + t.args[m].size := by rw [hs1]; omega
    repeat' (first | ((with_reducible refine D.nil ?_); refine AX.nilL ?_) | ((with_reducible refine D.load ?_); first | refine L.ldb U U U U U U ?_ | refine L.lda U U U U U ?_) | ((with_reducible refine D.move ?_); refine L.mv U U U ?_) | ((with_reducible refine D.assign ?_); refine L.asg U U U ?_) | ((with_reducible refine D.bin ?_); refine L.ad U U U U (by omega) ?_) | ((with_reducible refine D.call ?_); refine L.c2 (ih _ ?_ ?_) U U U U ?_) | ((with_reducible refine D.alloc ?_); refine L.al U U U ?_) | ((with_reducible refine D.store ?_); refine L.st U U U U U U U U U ?_) | ((with_reducible refine D.indexAddr ?_); refine L.ixt _ U U U U U U U (by assumption) ?_) | ((with_reducible refine D.aw ?_); first | refine K.sq (AW.regL ?_) | refine AW.regL ?_) | with_reducible refine K.tN ?_ | with_reducible refine K.bN ?_ | ((with_reducible show @LE.le Nat _ _ _); omega) | ((with_reducible show @LT.lt Nat _ _ _); omega))
    refine ⟨rfl, trivial, ?_⟩
    simp only [e]
    exact (Weak.mk [some 0] _ _ _ U U U U (by (repeat' (first | exact trivial | refine And.intro ?_ ?_ | refine ⟨_, U, _, U, ?_⟩ | exact VLe.refl _)); done) (by (repeat' (first | exact trivial | refine And.intro ?_ ?_ | refine ⟨_, U, _, U, _, U, ?_⟩ | exact VLe.refl _)); done))
  · intro hP
    repeat' (first | ((with_reducible refine D.nil ?_); refine AX.nilL ?_) | ((with_reducible refine D.move ?_); refine L.mv U U U ?_) | ((with_reducible refine D.assign ?_); refine L.asg U U U ?_) | ((with_reducible refine D.aw ?_); first | refine K.sq (AW.regL ?_) | refine AW.ret ?_) | with_reducible refine K.tN ?_ | with_reducible refine K.r1 (by with_unfolding_all rfl) (by with_unfolding_all rfl) ?_)
    simp [tupV, constV, hsz', V.wk, V.wks]
theorem checkTyR_c (t : Ty) (ht : t.size < 1099511627776) : PC E 94 [.agg t.view] (.i t.err) := by
  have h1 := shapeTy_c _ t (Nat.le_refl _) ht
  have h2 := sizeTy_c _ t (Nat.le_refl _) ht
  refine AC.mk Tryz.func94 rfl rfl rfl rfl rfl (Nat.le_of_ble_eq_true rfl) ?_
  repeat' (first | ((with_reducible refine D.nil ?_); refine AX.nilL ?_) | ((with_reducible refine D.load ?_); refine L.ldb U U U U U U ?_) | ((with_reducible refine D.assign ?_); refine L.asg U U U ?_) | ((with_reducible refine D.bin ?_); refine L.bn U U U U U ?_) | ((with_reducible refine D.call ?_); first | refine L.c2 (h1) U U U U ?_ | refine L.c2 (h2) U U U U ?_) | ((with_reducible refine D.box ?_); refine L.bx U U U U ?_) | ((with_reducible refine D.not ?_); refine L.nt U U U ?_) | ((with_reducible refine D.aw ?_); first | refine K.sq (AW.regL ?_) | refine K.sq (K.sq ?_) | refine AW.regL ?_ | refine AW.condS U (fun h => ?_) (fun h => ?_) | refine AW.skip ?_ | refine AW.ret ?_) | with_reducible refine K.tN ?_ | with_reducible refine K.tR ?_ | with_reducible refine K.r1 (by with_unfolding_all rfl) (by with_unfolding_all rfl) ?_)
  all_goals simp_all [tupV, V.wk, V.wks, constV, Ty.err]
  all_goals (first | omega | (split <;> first | omega | simp_all))
theorem zeroTy_c (t : Ty) : PC E 95 [.agg t.view] (.bool t.isNo) := by
  refine AC.mk Tryz.func95 rfl rfl rfl rfl rfl (Nat.le_of_ble_eq_true rfl) ?_
  repeat' (first | ((with_reducible refine D.nil ?_); refine AX.nilL ?_) | ((with_reducible refine D.load ?_); first | refine L.ldb U U U U U U ?_ | refine AX.sk U U ?_) | ((with_reducible refine D.move ?_); refine L.mv U U U ?_) | ((with_reducible refine D.fieldAddr ?_); first | refine L.fab U U U U U ?_ | refine AX.sk U U ?_ | ((fail_if_success refine AX.wt U ?_); refine AX.gs U U (fun _ => trivial) (fun h => ?_) (fun h => ?_))) | ((with_reducible refine D.assign ?_); refine L.asg U U U ?_) | ((with_reducible refine D.bin ?_); first | refine L.bn U U U U U ?_ | refine AX.sk U U ?_) | ((with_reducible refine D.call ?_); first | refine L.lnt U U U U ?_ | refine AX.sk U U ?_) | ((with_reducible refine D.box ?_); refine L.bx U U U U ?_) | ((with_reducible refine D.pick ?_); refine L.pk U U U U ?_) | ((with_reducible refine D.aw ?_); first | refine K.sq (AW.regL ?_) | refine AW.ret ?_) | with_reducible refine K.tN ?_ | with_reducible refine K.r1 (by with_unfolding_all rfl) (by with_unfolding_all rfl) ?_)
  all_goals simp_all [tupV, V.wk, V.wks, constV, Ty.isNo]
  rw [Bool.eq_iff_iff]; simp
theorem okTy_c (t : Ty) (ht : t.size < 1099511627776) : PC E 167 [.agg t.view] (.tup [.agg (if t.err = 0 then t else noTy).view, .i (if t.err = 0 then 0 else 4)]) := by
  have h1 := checkTyR_c t ht
  refine AC.mk Tryz.func167 rfl rfl rfl rfl rfl (Nat.le_of_ble_eq_true rfl) ?_
  repeat' (first | ((with_reducible refine D.nil ?_); refine AX.nilL ?_) | ((with_reducible refine D.load ?_); refine L.ldb U U U U U U ?_) | ((with_reducible refine D.assign ?_); refine L.asg U U U ?_) | ((with_reducible refine D.bin ?_); refine L.bn U U U U U ?_) | ((with_reducible refine D.call ?_); refine L.c2 (h1) U U U U ?_) | ((with_reducible refine D.box ?_); refine L.bx U U U U ?_) | ((with_reducible refine D.alloc ?_); refine L.al U U U ?_) | ((with_reducible refine D.store ?_); refine L.st U U U U U U U U U ?_) | ((with_reducible refine D.ax ?_); refine L.bd U U U U U ?_) | ((with_reducible refine D.aw ?_); first | refine K.sq (AW.regL ?_) | refine K.sq (K.sq ?_) | refine AW.regL ?_ | refine AW.condS U (fun h => ?_) (fun h => ?_) | refine AW.skip ?_ | refine AW.ret ?_) | with_reducible refine K.tN ?_ | with_reducible refine K.tR ?_ | with_reducible refine K.r1 (by with_unfolding_all rfl) (by with_unfolding_all rfl) ?_)
  all_goals simp_all [tupV, V.wk, V.wks, constV, noTy, Ty.view]
end Go.Ab
namespace Go.Ab
open Go Go.Proofs
set_option maxRecDepth 100000
set_option linter.all false
theorem contextR_c (l : List Ty) (hl : (l.map Ty.size).sum < 1099511627776) : PC E 78 [.s .ty l] (.i (ctxErr l)) := by
  have hlen := lsum_len Ty.size Ty.size_pos l
  refine AC.mk Tryz.func78 rfl rfl rfl rfl rfl (Nat.le_of_ble_eq_true rfl) ?_
  repeat' (first | ((with_reducible refine D.nil ?_); refine AX.nilL ?_) | ((with_reducible refine D.move ?_); refine L.mv U U U ?_) | ((with_reducible refine D.assign ?_); refine L.asg U U U ?_) | ((with_reducible refine D.bin ?_); refine L.bn U U U U U ?_) | ((with_reducible refine D.call ?_); refine L.lnt U U U U ?_) | ((with_reducible refine D.aw ?_); first | refine K.sq (AW.regL ?_) | refine K.sq (K.sq ?_) | refine AW.regL ?_ | refine AW.condS U (fun h => ?_) (fun h => ?_) | refine AW.skip ?_ | refine AW.ret ?_) | with_reducible refine K.tN ?_ | with_reducible refine K.tR ?_ | with_reducible refine K.r1 (by with_unfolding_all rfl) (by with_unfolding_all rfl) ?_)
  · have h' : l.length > 16 := by simp at h; omega
    simp [tupV, V.wk, V.wks, constV, ctxErr, h']
  have h' : ¬ l.length > 16 := by simp at h; omega
  refine AW.range l.length (fun m => ∀ j (hj : j < l.length), j < m → l[j].err = 0)
    (fun m => ([(9, .s .ty l), (10, .i l.length), (11, .i m)], ⟨0, []⟩))
    (by omega) (fun m => rfl) (fun m => rfl) U (by intro j hj h; omega) (Weak.mk [] _ _ _ U U U U (by (repeat' (first | exact trivial | refine And.intro ?_ ?_ | refine ⟨_, U, _, U, ?_⟩ | exact VLe.refl _)); done) (by (repeat' (first | exact trivial)); done)) ?_ ?_
  · intro m hm hP
    have hs2 := lsum_mem Ty.size (List.getElem_mem hm)
    repeat' (first | ((with_reducible refine D.nil ?_); refine AX.nilL ?_) | ((with_reducible refine D.load ?_); first | refine L.ldb U U U U U U ?_ | refine L.lda U U U U U ?_) | ((with_reducible refine D.move ?_); refine L.mv U U U ?_) | ((with_reducible refine D.assign ?_); refine L.asg U U U ?_) | ((with_reducible refine D.bin ?_); refine L.bn U U U U U ?_) | ((with_reducible refine D.call ?_); refine L.c2 (checkTyR_c _ ?_) U U U U ?_) | ((with_reducible refine D.alloc ?_); refine L.al U U U ?_) | ((with_reducible refine D.store ?_); refine L.st U U U U U U U U U ?_) | ((with_reducible refine D.indexAddr ?_); refine L.ixt _ U U U U U U U (by assumption) ?_) | ((with_reducible refine D.aw ?_); first | refine K.sq (AW.regL ?_) | refine AW.condS U (fun h => ?_) (fun h => ?_) | refine AW.skip ?_ | refine AW.ret ?_) | with_reducible refine K.tN ?_ | with_reducible refine K.bN ?_ | with_reducible refine K.tR ?_ | with_reducible refine K.bR ?_ | with_reducible refine K.gR ?_ | with_reducible refine K.r1 (by with_unfolding_all rfl) (by with_unfolding_all rfl) ?_ | ((with_reducible show @LT.lt Nat _ _ _); omega))
    · have h1 : ¬ l[m].err = 0 := by simpa using h
      simp [tupV, V.wk, V.wks, constV, ctxErr, h', firstErr_at l m hm hP h1]
    · exact ⟨rfl, all_step (p := fun t => Ty.err t = 0) hm hP (by simpa using h), (Weak.mk [] _ _ _ U U U U (by (repeat' (first | exact trivial | refine And.intro ?_ ?_ | refine ⟨_, U, _, U, ?_⟩ | exact VLe.refl _)); done) (by (repeat' (first | exact trivial)); done))⟩
  · intro hP
    repeat' (first | ((with_reducible refine D.nil ?_); refine AX.nilL ?_) | ((with_reducible refine D.assign ?_); refine L.asg U U U ?_) | ((with_reducible refine D.aw ?_); first | refine K.sq (AW.regL ?_) | refine AW.ret ?_) | with_reducible refine K.tN ?_ | with_reducible refine K.r1 (by with_unfolding_all rfl) (by with_unfolding_all rfl) ?_)
    simp [tupV, V.wk, V.wks, constV, ctxErr, h', firstErr_none l hP]
end Go.Ab
namespace Go.Ab
open Go Go.Proofs
set_option maxRecDepth 100000
set_option linter.all false
theorem args_c (k : Int) : PC E 93 [.i k] (.i (argsI k)) := by
  refine AC.mk Tryz.func93 rfl rfl rfl rfl rfl (Nat.le_of_ble_eq_true rfl) ?_
  repeat' (first | ((with_reducible refine D.nil ?_); refine AX.nilL ?_) | ((with_reducible refine D.move ?_); refine L.mv U U U ?_) | ((with_reducible refine D.assign ?_); refine L.asg U U U ?_) | ((with_reducible refine D.bin ?_); refine L.bn U U U U U ?_) | ((with_reducible refine D.aw ?_); first | ((with_reducible refine D.blk ?_); refine AW.block ?_) | refine K.sq (AW.regL ?_) | refine K.sq (K.sq ?_) | refine AW.regL ?_ | refine AW.condT U ?_ | refine AW.condS U (fun h => ?_) (fun h => ?_) | refine AW.skip ?_ | refine AW.ret ?_) | with_reducible refine K.tN ?_ | with_reducible refine K.bN ?_ | with_reducible refine K.tR ?_ | with_reducible refine K.bR ?_ | with_reducible refine K.r1 (by with_unfolding_all rfl) (by with_unfolding_all rfl) ?_)
  all_goals
    simp only [beq_iff_eq, beq_eq_false_iff_ne, ne_eq] at *
    simp [tupV, V.wk, V.wks, constV, argsI, *]
theorem countTm_c : ∀ (b : Nat) (t : Tm), t.full ≤ b → b < 1099511627776 → PC E 56 [.agg t.view] (.i t.size) := by
  intro b
  induction b with
  | zero => intro t h; have := t.full_pos; omega
  | succ b ih =>
  intro t hsz hb
  have hsz' := Tm.full_eq t
  have hszz := Tm.size_eq t
  have hle := Tm.size_le_full t
  have hlen := lsum_len Tm.full Tm.full_pos t.args
  refine AC.mk Tryz.func56 rfl rfl rfl rfl rfl (Nat.le_of_ble_eq_true rfl) ?_
  repeat' (first | ((with_reducible refine D.nil ?_); refine AX.nilL ?_) | ((with_reducible refine D.load ?_); refine L.ldb U U U U U U ?_) | ((with_reducible refine D.move ?_); refine L.mv U U U ?_) | ((with_reducible refine D.fieldAddr ?_); refine L.fab U U U U U ?_) | ((with_reducible refine D.assign ?_); refine L.asg U U U ?_) | ((with_reducible refine D.call ?_); refine L.lnt U U U U ?_) | ((with_reducible refine D.box ?_); refine L.bx U U U U ?_) | ((with_reducible refine D.aw ?_); first | refine K.sq (AW.regL ?_) | refine K.sq (K.sq ?_) | refine AW.regL ?_) | with_reducible refine K.tN ?_)
  refine AW.range t.args.length (fun m => True)
    (fun m => ([(3, .i (1 + ((t.args.take m).map Tm.size).sum)), (7, .s .tm t.args), (8, .i t.args.length), (9, .i m)], ⟨1, [(0, .var t.view)]⟩))
    (by omega) (fun m => rfl) (fun m => rfl) U trivial (Weak.mk [some 0] _ _ _ U U U U (by (repeat' (first | exact trivial | refine And.intro ?_ ?_ | refine ⟨_, U, _, U, ?_⟩ | exact VLe.refl _)); done) (by (repeat' (first | exact trivial | refine And.intro ?_ ?_ | refine ⟨_, U, _, U, _, U, ?_⟩ | exact VLe.refl _)); done)) ?_ ?_
  · intro m hm hP
    have hs1 := lsum_take Tm.size t.args m hm
    have hs2 := lsum_mem Tm.full (List.getElem_mem hm)
    have hs3 := lsum_take_le Tm.size t.args (m + 1)
    have e : (1 + ((((t.args.take (m + 1)).map Tm.size).sum : Nat) : Int)) = 1 + (((t.args.take m).map Tm.size).sum : Nat) + t.args[m].size := by rw [hs1]; omega
    repeat' (first | ((with_reducible refine D.nil ?_); refine AX.nilL ?_) | ((with_reducible refine D.load ?_); first | refine L.ldb U U U U U U ?_ | refine L.lda U U U U U ?_) | ((with_reducible refine D.move ?_); refine L.mv U U U ?_) | ((with_reducible refine D.assign ?_); refine L.asg U U U ?_) | ((with_reducible refine D.bin ?_); refine L.ad U U U U (by omega) ?_) | ((with_reducible refine D.call ?_); refine L.c2 (ih _ ?_ ?_) U U U U ?_) | ((with_reducible refine D.alloc ?_); refine L.al U U U ?_) | ((with_reducible refine D.store ?_); refine L.st U U U U U U U U U ?_) | ((with_reducible refine D.indexAddr ?_); refine L.ixt _ U U U U U U U (by assumption) ?_) | ((with_reducible refine D.aw ?_); first | refine K.sq (AW.regL ?_) | refine AW.regL ?_) | with_reducible refine K.tN ?_ | with_reducible refine K.bN ?_ | ((with_reducible show @LE.le Nat _ _ _); omega) | ((with_reducible show @LT.lt Nat _ _ _); omega))
    refine ⟨rfl, trivial, ?_⟩
    simp only [e]
    exact (Weak.mk [some 0] _ _ _ U U U U (by (repeat' (first | exact trivial | refine And.intro ?_ ?_ | refine ⟨_, U, _, U, ?_⟩ | exact VLe.refl _)); done) (by (repeat' (first | exact trivial | refine And.intro ?_ ?_ | refine ⟨_, U, _, U, _, U, ?_⟩ | exact VLe.refl _)); done))
  · intro hP
    repeat' (first | ((with_reducible refine D.nil ?_); refine AX.nilL ?_) | ((with_reducible refine D.move ?_); refine L.mv U U U ?_) | ((with_reducible refine D.assign ?_); refine L.asg U U U ?_) | ((with_reducible refine D.aw ?_); first | refine K.sq (AW.regL ?_) | refine AW.ret ?_) | with_reducible refine K.tN ?_ | with_reducible refine K.r1 (by with_unfolding_all rfl) (by with_unfolding_all rfl) ?_)
    simp [tupV, constV, hszz, V.wk, V.wks]
end Go.Ab
namespace Go.Ab
open Go Go.Proofs
set_option maxRecDepth 100000
set_option linter.all false
theorem argsI_eq (k : Int) : argsI k = match arK k with | some n => (n : Int) | none => -1 := by
  simp only [argsI, arK]; (repeat' split) <;> simp_all <;> omega
theorem Tm.head_eqR (t : Tm) : t.head = (!((t.args.length : Int) != argsI t.kind) && !decide (t.index < 0) && (!(t.kind != 1) || !(t.index != 0)) && (bif typedK t.kind then !(t.ty.err != 0) else !(!t.ty.isNo))) := by
  simp only [Tm.head, Ty.ok_err, argsI_eq]
  cases hk : arK t.kind with
  | none =>
    have : ((t.args.length : Int) != -1) = true := by simp
    simp [this]
  | some n =>
    have h1 : (t.args.length == n) = !((t.args.length : Int) != ((n : Nat) : Int)) := by rw [Bool.eq_iff_iff]; simp; omega
    have h2 : decide (0 ≤ t.index) = !decide (t.index < 0) := by rw [Bool.eq_iff_iff]; simp
    simp only [h1, h2, bne]
    cases (t.index == 0) <;> cases (t.kind == 1) <;> simp
theorem shapeTm_c : ∀ (b : Nat) (t : Tm), t.full ≤ b → b < 1099511627776 → PC E 55 [.agg t.view] (.bool t.shape) := by
  intro b
  induction b with
  | zero => intro t h; have := t.full_pos; omega
  | succ b ih =>
  intro t hsz hb
  have hsz' := Tm.full_eq t
  have hlen := lsum_len Tm.full Tm.full_pos t.args
  have hsh := Tm.shape_eq t
  have h1 := args_c t.kind
  have h3 := zeroTy_c t.ty
  have h4 := checkTyR_c t.ty (by omega)
  refine AC.mk Tryz.func55 rfl rfl rfl rfl rfl (Nat.le_of_ble_eq_true rfl) ?_
  repeat' (first | ((with_reducible refine D.nil ?_); first | refine AX.nilL ?_ | refine AX.nilD (by kernel_rfl) ?_) | ((with_reducible refine D.load ?_); first | refine L.ldb U U U U U U ?_ | refine AX.sk U U ?_) | ((with_reducible refine D.move ?_); first | refine L.mv U U U ?_ | refine AX.sk U U ?_) | ((with_reducible refine D.fieldAddr ?_); first | refine L.fab U U U U U ?_ | refine AX.sk U U ?_ | ((fail_if_success refine AX.wt U ?_); refine AX.gs U U (fun _ => trivial) (fun h => ?_) (fun h => ?_))) | ((with_reducible refine D.assign ?_); refine L.asg U U U ?_) | ((with_reducible refine D.bin ?_); first | refine L.bn U U U U U ?_ | refine AX.sk U U ?_) | ((with_reducible refine D.call ?_); first | refine L.lnt U U U U ?_ | refine L.c2 (h1) U U U U ?_ | refine L.c2 (h3) U U U U ?_ | refine L.c2 (h4) U U U U ?_) | ((with_reducible refine D.box ?_); refine L.bx U U U U ?_) | ((with_reducible refine D.not ?_); refine L.nt U U U ?_) | ((with_reducible refine D.pick ?_); first | refine L.pk U U U U ?_ | refine AX.sk U U ?_) | ((with_reducible refine D.aw ?_); first | ((with_reducible refine D.blk ?_); refine AW.block ?_) | refine K.sq (AW.regL ?_) | refine K.sq (K.sq ?_) | refine AW.regL ?_ | refine AW.regD mixed (by kernel_rfl) ?_ | refine AW.condT U ?_ | refine AW.condF U ?_ | refine AW.condS U (fun h => ?_) (fun h => ?_) | refine AW.skip ?_ | refine AW.ret ?_) | with_reducible refine K.tN ?_ | with_reducible refine K.bN ?_ | with_reducible refine K.tR ?_ | with_reducible refine K.bR ?_ | with_reducible refine K.r1 (by with_unfolding_all rfl) (by with_unfolding_all rfl) ?_)
  all_goals first
    | (have hd : t.head = false := by rw [t.head_eqR]; simp_all [typedK]
       have : t.shape = false := by rw [hsh, hd, Bool.false_and]
       simp [this, tupV, constV, V.wk, V.wks]; done)
    | (have hd : t.head = true := by rw [t.head_eqR]; simp_all [typedK]
       refine AW.range t.args.length (fun m => ∀ j (hj : j < t.args.length), j < m → (t.args[j]).shape = true)
         (fun m => ([(1, .ptr 0 0), (42, .s .tm t.args), (43, .i t.args.length), (44, .i m)], ⟨1, [(0, .var t.view)]⟩))
         (by omega) (fun m => rfl) (fun m => rfl) U (by intro j hj h; omega) (Weak.mk [some 0] _ _ _ U U U U (by (repeat' (first | exact trivial | refine And.intro ?_ ?_ | refine ⟨_, U, _, U, ?_⟩ | exact VLe.refl _)); done) (by (repeat' (first | exact trivial | refine And.intro ?_ ?_ | refine ⟨_, U, _, U, _, U, ?_⟩ | exact VLe.refl _)); done)) ?_ ?_
       · intro m hm hP
         have hs2 := lsum_mem Tm.full (List.getElem_mem hm)
         repeat' (first | ((with_reducible refine D.nil ?_); refine AX.nilL ?_) | ((with_reducible refine D.load ?_); first | refine L.ldb U U U U U U ?_ | refine L.lda U U U U U ?_) | ((with_reducible refine D.assign ?_); refine L.asg U U U ?_) | ((with_reducible refine D.call ?_); refine L.c2 (ih _ ?_ ?_) U U U U ?_) | ((with_reducible refine D.alloc ?_); refine L.al U U U ?_) | ((with_reducible refine D.store ?_); refine L.st U U U U U U U U U ?_) | ((with_reducible refine D.indexAddr ?_); refine L.ixt _ U U U U U U U (by assumption) ?_) | ((with_reducible refine D.not ?_); refine L.nt U U U ?_) | ((with_reducible refine D.aw ?_); first | refine K.sq (AW.regL ?_) | refine AW.condS U (fun h => ?_) (fun h => ?_) | refine AW.skip ?_ | refine AW.ret ?_) | with_reducible refine K.tN ?_ | with_reducible refine K.bN ?_ | with_reducible refine K.tR ?_ | with_reducible refine K.bR ?_ | with_reducible refine K.gR ?_ | with_reducible refine K.r1 (by with_unfolding_all rfl) (by with_unfolding_all rfl) ?_ | ((with_reducible show @LE.le Nat _ _ _); omega) | ((with_reducible show @LT.lt Nat _ _ _); omega))
         · have h1 : (t.args[m]).shape = false := by simpa using h
           have : t.shape = false := by rw [hsh, all_not Tm.shape hm h1, Bool.and_false]
           simp [this, tupV, constV, V.wk, V.wks]
         · have hh : (t.args[m]).shape = true := by simpa using h
           exact ⟨rfl, all_step (p := fun t => Tm.shape t = true) hm hP hh, (Weak.mk [some 0] _ _ _ U U U U (by (repeat' (first | exact trivial | refine And.intro ?_ ?_ | refine ⟨_, U, _, U, ?_⟩ | exact VLe.refl _)); done) (by (repeat' (first | exact trivial | refine And.intro ?_ ?_ | refine ⟨_, U, _, U, _, U, ?_⟩ | exact VLe.refl _)); done))⟩
       · intro hP
         have : t.shape = true := by simp only [hsh, hd, all_of Tm.shape t.args fun j hj => hP j hj hj]; simp
         repeat' (first | ((with_reducible refine D.nil ?_); refine AX.nilL ?_) | ((with_reducible refine D.assign ?_); refine L.asg U U U ?_) | ((with_reducible refine D.aw ?_); first | refine K.sq (AW.regL ?_) | refine AW.ret ?_) | with_reducible refine K.tN ?_ | with_reducible refine K.r1 (by with_unfolding_all rfl) (by with_unfolding_all rfl) ?_)
         simp [this, tupV, constV, V.wk, V.wks])
theorem checkTmR_c (t : Tm) (ht : t.full < 1099511627776) : PC E 24 [.agg t.view] (.i t.err) := by
  have h1 := shapeTm_c _ t (Nat.le_refl _) ht
  have h2 := countTm_c _ t (Nat.le_refl _) ht
  refine AC.mk Tryz.func24 rfl rfl rfl rfl rfl (Nat.le_of_ble_eq_true rfl) ?_
  repeat' (first | ((with_reducible refine D.nil ?_); refine AX.nilL ?_) | ((with_reducible refine D.load ?_); refine L.ldb U U U U U U ?_) | ((with_reducible refine D.assign ?_); refine L.asg U U U ?_) | ((with_reducible refine D.bin ?_); refine L.bn U U U U U ?_) | ((with_reducible refine D.call ?_); first | refine L.c2 (h1) U U U U ?_ | refine L.c2 (h2) U U U U ?_) | ((with_reducible refine D.box ?_); refine L.bx U U U U ?_) | ((with_reducible refine D.not ?_); refine L.nt U U U ?_) | ((with_reducible refine D.aw ?_); first | refine K.sq (AW.regL ?_) | refine K.sq (K.sq ?_) | refine AW.regL ?_ | refine AW.condS U (fun h => ?_) (fun h => ?_) | refine AW.skip ?_ | refine AW.ret ?_) | with_reducible refine K.tN ?_ | with_reducible refine K.tR ?_ | with_reducible refine K.r1 (by with_unfolding_all rfl) (by with_unfolding_all rfl) ?_)
  all_goals simp_all [tupV, V.wk, V.wks, constV, Tm.err]
  all_goals (first | omega | (split <;> first | omega | simp_all))
end Go.Ab
namespace Go.Ab
open Go Go.Proofs
set_option maxRecDepth 100000
set_option maxHeartbeats 40000000
set_option linter.all false
theorem infer_c : ∀ (n : Nat) (t : Tm) (g : List Ty), t.full ≤ n → n < 274877906944 → t.shape = true → (∀ x ∈ g, x.err = 0) → g.length + n < 274877906944 → PC E 126 [.s .ty g, .agg t.view] (.tup [.agg (t.inf g).1.view, .i (t.inf g).2]) := by
  intro n
  induction n with
  | zero => intro t g h; have := t.full_pos; omega
  | succ n ih =>
  intro t g hsz hb hsh hg hgn
  have hsz' := Tm.full_eq t
  have hlen := lsum_len Tm.full Tm.full_pos t.args
  have hix := shape_index hsh
  have hak := arK_len hsh
  have hargs := shape_args hsh
  have hinf := Tm.inf_eq g t
  have e64 : ∀ {x : Ty}, x.err = 0 → x.size ≤ 64 := fun h => ((Ty.err_iff _).1 h).2
  by_cases k1 : t.kind = 1
  · rw [if_pos k1] at hinf
    have hk : (t.kind == 1) = true := by simp [k1]
    refine AC.mk Tryz.func126 rfl rfl rfl rfl rfl (Nat.le_of_ble_eq_true rfl) ?_
    by_cases hlt : t.index ≥ g.length
    · rw [if_pos hlt] at hinf
      repeat' (first | ((with_reducible refine D.nil ?_); refine AX.nilL ?_) | ((with_reducible refine D.load ?_); first | refine L.ldb U U U U U U ?_ | refine L.lda U U U U U ?_) | ((with_reducible refine D.move ?_); refine L.mv U U U ?_) | ((with_reducible refine D.fieldAddr ?_); refine L.fab U U U U U ?_) | ((with_reducible refine D.assign ?_); refine L.asg U U U ?_) | ((with_reducible refine D.bin ?_); first | refine L.sb U U U U (by omega) ?_ | refine L.bn U U U U U ?_) | ((with_reducible refine D.call ?_); first | refine L.lnt U U U U ?_ | refine L.aptF U U U U (by first | assumption | simp) U U U (by first | omega | (simp; omega)) ?_) | ((with_reducible refine D.box ?_); refine L.bx U U U U ?_) | ((with_reducible refine D.alloc ?_); refine L.al U U U ?_) | ((with_reducible refine D.store ?_); refine L.st U U U U U U U U U ?_) | ((with_reducible refine D.indexAddr ?_); refine L.ixt _ U U U U U U U (by (simp at *; omega)) ?_) | ((with_reducible refine D.ax ?_); first | refine L.bd U U U U U ?_ | refine L.bs1 U U U U U (EC.fold_of U) U U ?_ | refine L.s3 U U U U U U ?_) | ((with_reducible refine D.aw ?_); first | refine K.sq (AW.regL ?_) | refine K.sq (AW.regD mixed (by kernel_rfl) ?_) | refine K.sq (K.sq ?_) | refine AW.regL ?_ | refine AW.condS U (fun h => ?_) (fun h => ?_) | refine AW.skip ?_ | refine AW.ret ?_) | with_reducible refine K.tN ?_ | with_reducible refine K.tR ?_ | with_reducible refine K.r1 (by with_unfolding_all rfl) (by with_unfolding_all rfl) ?_)
      all_goals first
        | (exfalso; simp_all; done)
        | (simp [tupV, V.wk, V.wks, constV, Ty.view, hinf, noTy]; done)
        | (exfalso; simp at *; omega)
    · rw [if_neg hlt] at hinf
      have h0 : g.length - 1 - t.index.toNat < g.length := by omega
      have hcp := copyTy_c _ (g[g.length - 1 - t.index.toNat]) (Nat.le_refl _) (by have := e64 (hg _ (List.getElem_mem h0)); omega)
      rw [at0_lt h0] at hinf
      repeat' (first | ((with_reducible refine D.nil ?_); refine AX.nilL ?_) | ((with_reducible refine D.load ?_); first | refine L.ldb U U U U U U ?_ | refine L.lda U U U U U ?_) | ((with_reducible refine D.move ?_); refine L.mv U U U ?_) | ((with_reducible refine D.fieldAddr ?_); refine L.fab U U U U U ?_) | ((with_reducible refine D.assign ?_); refine L.asg U U U ?_) | ((with_reducible refine D.bin ?_); first | refine L.sb U U U U (by omega) ?_ | refine L.bn U U U U U ?_) | ((with_reducible refine D.call ?_); first | refine L.lnt U U U U ?_ | refine L.aptF U U U U (by first | assumption | simp) U U U (by first | omega | (simp; omega)) ?_) | ((with_reducible refine D.box ?_); refine L.bx U U U U ?_) | ((with_reducible refine D.alloc ?_); refine L.al U U U ?_) | ((with_reducible refine D.store ?_); refine L.st U U U U U U U U U ?_) | ((with_reducible refine D.indexAddr ?_); refine L.ixt _ U U U U U U U (by first | assumption | (simp at *; omega)) ?_) | ((with_reducible refine D.ax ?_); first | refine L.bd U U U U U ?_ | refine L.bs1 U U U U U (EC.fold_of U) U U ?_ | refine L.s3 U U U U U U ?_) | ((with_reducible refine D.aw ?_); first | refine K.sq (AW.regL ?_) | refine K.sq (AW.regD mixed (by kernel_rfl) ?_) | refine K.sq (K.sq ?_) | refine AW.regL ?_ | refine AW.condS U (fun h => ?_) (fun h => ?_) | refine AW.skip ?_ | refine AW.ret ?_) | with_reducible refine K.tN ?_ | with_reducible refine K.tR ?_ | with_reducible refine K.r1 (by with_unfolding_all rfl) (by with_unfolding_all rfl) ?_)
      all_goals first
        | (exfalso; simp_all; done)
        | (exfalso; simp at *; omega)
        | skip
      refine L.ixt (g.length - 1 - t.index.toNat) rfl rfl rfl rfl (by omega) rfl rfl h0 ?_
      repeat' (first | ((with_reducible refine D.nil ?_); refine AX.nilL ?_) | ((with_reducible refine D.load ?_); refine L.lda U U U U U ?_) | ((with_reducible refine D.assign ?_); refine L.asg U U U ?_) | ((with_reducible refine D.call ?_); refine L.c2 (hcp) U U U U ?_) | ((with_reducible refine D.store ?_); refine L.st U U U U U U U U U ?_) | ((with_reducible refine D.aw ?_); refine AW.ret ?_) | with_reducible refine K.tN ?_ | with_reducible refine K.tR ?_ | with_reducible refine K.r1 (by with_unfolding_all rfl) (by with_unfolding_all rfl) ?_)
      simp [tupV, V.wk, V.wks, constV, Ty.view, hinf]
  rw [if_neg k1] at hinf
  by_cases k2 : t.kind = 2
  · rw [if_pos k2] at hinf
    have hl1 : t.args.length = 1 := by rw [k2] at hak; exact (Option.some.inj hak).symm
    have h0 : 0 < t.args.length := by omega
    have hte : t.ty.err = 0 := shape_ty hsh (by rw [k2]; rfl)
    have hs2 := lsum_mem Tm.full (List.getElem_mem h0)
    have hg' : ∀ x ∈ g ++ [t.ty], x.err = 0 := fun x hx => by
      rcases List.mem_append.1 hx with hx | hx
      · exact hg x hx
      · simp at hx; subst hx; exact hte
    have hc := ih t.args[0] (g ++ [t.ty]) (by omega) (by omega) (hargs _ (List.getElem_mem h0)) hg' (by simp; omega)
    have hgood := Tm.inf_good t.args[0] (g ++ [t.ty]) (hargs _ (List.getElem_mem h0)) hg'
    have hinfs : Tm.infs (g ++ [t.ty]) t.args = if (t.args[0].inf (g ++ [t.ty])).2 ≠ 0 then ([], (t.args[0].inf (g ++ [t.ty])).2) else ([(t.args[0].inf (g ++ [t.ty])).1], 0) :=
      (congrArg (Tm.infs (g ++ [t.ty])) (len1 hl1)).trans (by simp only [Tm.infs, ne_eq, not_true_eq_false, if_false])
    have hf : (t.args[0].inf (g ++ [t.ty])).2 = 0 → _ := fun h => fun_c t.ty (t.args[0].inf (g ++ [t.ty])).1 (by have := e64 hte; omega) (by have := e64 (hgood h); omega)
    have ho : (t.args[0].inf (g ++ [t.ty])).2 = 0 → _ := fun h => okTy_c (funT t.ty (t.args[0].inf (g ++ [t.ty])).1) (by have := e64 (hgood h); have := e64 hte; simp only [funT, Ty.size, Ty.sizes]; omega)
    refine AC.mk Tryz.func126 rfl rfl rfl rfl rfl (Nat.le_of_ble_eq_true rfl) ?_
    repeat' (first | ((with_reducible refine D.nil ?_); first | refine AX.nilL ?_ | refine AX.nilD (by kernel_rfl) ?_) | ((with_reducible refine D.load ?_); first | refine L.ldb U U U U U U ?_ | refine L.lda U U U U U ?_) | ((with_reducible refine D.move ?_); refine L.mv U U U ?_) | ((with_reducible refine D.fieldAddr ?_); refine L.fab U U U U U ?_) | ((with_reducible refine D.assign ?_); refine L.asg U U U ?_) | ((with_reducible refine D.bin ?_); first | refine L.sb U U U U (by omega) ?_ | refine L.bn U U U U U ?_) | ((with_reducible refine D.call ?_); first | refine L.lnt U U U U ?_ | refine L.aptF U U U U (by first | assumption | simp) U U U (by first | omega | (simp; omega)) ?_ | refine L.c2 (hc) U U U U ?_ | refine L.c2 (hf (by simp_all)) U U U U ?_ | refine L.c2 (ho (by simp_all)) U U U U ?_) | ((with_reducible refine D.extract ?_); refine L.ex U U U U ?_) | ((with_reducible refine D.box ?_); refine L.bx U U U U ?_) | ((with_reducible refine D.alloc ?_); refine L.al U U U ?_) | ((with_reducible refine D.store ?_); refine L.st U U U U U U U U U ?_) | ((with_reducible refine D.indexAddr ?_); refine L.ixt _ U U U U U U U (by first | assumption | (simp at *; omega)) ?_) | ((with_reducible refine D.ax ?_); first | refine L.bd U U U U U ?_ | refine L.bs1 U U U U U (EC.fold_of U) U U ?_ | refine L.s3 U U U U U U ?_) | ((with_reducible refine D.aw ?_); first | refine K.sq (AW.regL ?_) | refine K.sq (AW.regD mixed (by kernel_rfl) ?_) | refine K.sq (K.sq ?_) | refine AW.regL ?_ | refine AW.condS U (fun h => ?_) (fun h => ?_) | refine AW.skip ?_ | refine AW.ret ?_) | with_reducible refine K.tN ?_ | with_reducible refine K.tR ?_ | with_reducible refine K.r1 (by with_unfolding_all rfl) (by with_unfolding_all rfl) ?_)
    all_goals first
      | (exfalso; simp_all; done)
      | skip
    · have h' : (t.args[0].inf (g ++ [t.ty])).2 ≠ 0 := by simpa using h
      rw [if_pos h'] at hinfs
      rw [hinfs, if_pos h'] at hinf
      simp [tupV, V.wk, V.wks, constV, Ty.view, hinf, noTy]
    · have h' : ¬ (t.args[0].inf (g ++ [t.ty])).2 ≠ 0 := by simpa using h
      rw [if_neg h'] at hinfs
      rw [hinfs] at hinf
      have hinf' : t.inf g = okT (funT t.ty (t.args[0].inf (g ++ [t.ty])).1) := by rw [hinf]; rfl
      rw [hinf']
      by_cases he : (funT t.ty (t.args[0].inf (g ++ [t.ty])).1).err = 0
      · simp [tupV, V.wk, V.wks, constV, Ty.view, okT, he]
      · simp [tupV, V.wk, V.wks, constV, Ty.view, okT, he]
  rw [if_neg k2] at hinf
  refine AC.mk Tryz.func126 rfl rfl rfl rfl rfl (Nat.le_of_ble_eq_true rfl) ?_
  repeat' (first | ((with_reducible refine D.nil ?_); refine AX.nilL ?_) | ((with_reducible refine D.load ?_); first | refine L.ldb U U U U U U ?_ | refine L.lda U U U U U ?_) | ((with_reducible refine D.move ?_); refine L.mv U U U ?_) | ((with_reducible refine D.fieldAddr ?_); refine L.fab U U U U U ?_) | ((with_reducible refine D.assign ?_); refine L.asg U U U ?_) | ((with_reducible refine D.bin ?_); first | refine L.sb U U U U (by omega) ?_ | refine L.bn U U U U U ?_) | ((with_reducible refine D.call ?_); first | refine L.lnt U U U U ?_ | refine L.aptF U U U U (by first | assumption | simp) U U U (by first | omega | (simp; omega)) ?_) | ((with_reducible refine D.box ?_); refine L.bx U U U U ?_) | ((with_reducible refine D.alloc ?_); refine L.al U U U ?_) | ((with_reducible refine D.store ?_); refine L.st U U U U U U U U U ?_) | ((with_reducible refine D.indexAddr ?_); refine L.ixt _ U U U U U U U (by (simp at *; omega)) ?_) | ((with_reducible refine D.ax ?_); first | refine L.bd U U U U U ?_ | refine L.bs1 U U U U U (EC.fold_of U) U U ?_ | refine L.s3 U U U U U U ?_) | ((with_reducible refine D.aw ?_); first | refine K.sq (AW.regL ?_) | refine K.sq (AW.regD mixed (by kernel_rfl) ?_) | refine K.sq (K.sq ?_) | refine AW.regL ?_ | refine AW.condS U (fun h => ?_) (fun h => ?_) | refine AW.skip ?_ | refine AW.ret ?_) | with_reducible refine K.tN ?_ | with_reducible refine K.tR ?_ | with_reducible refine K.r1 (by with_unfolding_all rfl) (by with_unfolding_all rfl) ?_)
  all_goals first
    | (exfalso; simp_all; done)
    | skip
  refine AW.range t.args.length (fun m => ∀ j (hj : j < t.args.length), j < m → (t.args[j].inf g).2 = 0)
    (fun m => ([(0, .s .ty g), (3, .ptr 0 0), (4, .ptr 1 0), (8, .slice (.own 2) (.t .ty ((t.args.take m).map fun x => (x.inf g).1))), (67, .s .tm t.args), (68, .i t.args.length), (69, .i m)], ⟨3, [(0, .var t.view), (1, .var [.i 0, .slice .nil (.t .ty [])]), (2, .row)]⟩))
    (by omega) (fun m => rfl) (fun m => rfl) U (by intro j hj h; omega) (Weak.mk [some 0, some 1, none] _ _ _ U U U U (by (repeat' (first | exact trivial | refine And.intro ?_ ?_ | refine ⟨_, U, _, U, ?_⟩ | exact VLe.refl _)); done) (by (repeat' (first | exact trivial | exact Or.inl U | refine And.intro ?_ ?_ | refine ⟨_, U, _, U, _, U, ?_⟩ | exact VLe.refl _)); done)) ?_ ?_
  · intro m hm hP
    have hs2 := lsum_mem Tm.full (List.getElem_mem hm)
    have hc := ih t.args[m] g (by omega) (by omega) (hargs _ (List.getElem_mem hm)) hg (by omega)
    repeat' (first | ((with_reducible refine D.nil ?_); refine AX.nilL ?_) | ((with_reducible refine D.load ?_); first | refine L.ldb U U U U U U ?_ | refine L.lda U U U U U ?_) | ((with_reducible refine D.move ?_); refine L.mv U U U ?_) | ((with_reducible refine D.assign ?_); refine L.asg U U U ?_) | ((with_reducible refine D.bin ?_); refine L.bn U U U U U ?_) | ((with_reducible refine D.call ?_); first | refine L.apt U U U U U U (by first | exact trivial | exact ⟨rfl, trivial⟩) U U (by first | omega | (simp; omega)) ?_ | refine L.c2 (hc) U U U U ?_) | ((with_reducible refine D.extract ?_); refine L.ex U U U U ?_) | ((with_reducible refine D.alloc ?_); refine L.al U U U ?_) | ((with_reducible refine D.store ?_); refine L.st U U U U U U U U U ?_) | ((with_reducible refine D.indexAddr ?_); refine L.ixt _ U U U U U U U (by assumption) ?_) | ((with_reducible refine D.ax ?_); first | refine L.bd U U U U U ?_ | refine L.bs1 U U U U U (EC.fold_of U) U U ?_) | ((with_reducible refine D.aw ?_); first | refine K.sq (AW.regL ?_) | refine K.sq (K.sq ?_) | refine AW.regL ?_ | refine AW.condS U (fun h => ?_) (fun h => ?_) | refine AW.skip ?_ | refine AW.ret ?_) | with_reducible refine K.tN ?_ | with_reducible refine K.bN ?_ | with_reducible refine K.tR ?_ | with_reducible refine K.bR ?_ | with_reducible refine K.gR ?_ | with_reducible refine K.r1 (by with_unfolding_all rfl) (by with_unfolding_all rfl) ?_)
    · have h' : (t.args[m].inf g).2 ≠ 0 := by simpa using h
      have h2 := Tm.infs_err g t.args m hm hP h'
      rw [h2, if_pos h'] at hinf
      simp [tupV, V.wk, V.wks, constV, Ty.view, hinf, noTy]
    · have h' : (t.args[m].inf g).2 = 0 := by simpa using h
      refine ⟨rfl, all_step (p := fun x : Tm => (x.inf g).2 = 0) hm hP h', ?_⟩
      exact (Weak.mk [some 0, some 1, some 5] _ _ _ U U U U (by (repeat' (first | exact trivial | refine And.intro ?_ ?_ | refine ⟨_, U, _, U, ?_⟩ | exact VLe.refl _ | exact VLe.of_eq (by simp [Sto.upd, map_take _ _ _ hm]))); done) (by (repeat' (first | exact trivial | exact Or.inr ⟨_, U, rfl⟩ | refine And.intro ?_ ?_ | refine ⟨_, U, _, U, _, U, ?_⟩ | exact VLe.refl _)); done))
  · intro hP
    have hall : ∀ x ∈ t.args, (x.inf g).2 = 0 := fun x hx => by
      obtain ⟨j, hj, rfl⟩ := List.mem_iff_getElem.1 hx
      exact hP j hj hj
    have h5 := Tm.infs_ok g t.args hall
    have hgood : ∀ x ∈ t.args.map (fun x => (x.inf g).1), x.err = 0 := fun x hx => by
      obtain ⟨y, hy, rfl⟩ := List.mem_map.1 hx
      exact Tm.inf_good y g (hargs y hy) hg (hall y hy)
    rw [h5] at hinf
    simp only [ne_eq, not_true_eq_false, if_false] at hinf
    have hLl : (t.args.map fun x => (x.inf g).1).length = t.args.length := by simp
    rw [show t.args.take t.args.length = t.args from List.take_length]
    generalize hL : t.args.map (fun x => (x.inf g).1) = L at *
    have hty := shape_ty hsh
    have hcpT : typedK t.kind = true → _ := fun h => copyTy_c _ t.ty (Nat.le_refl _) (by have := e64 (hty h); omega)
    clear hP hall h5 hargs hlen ih hsz' hix hsz
    rw [← hLl] at hak
    rcases arK_cases hak with ⟨hn, hk⟩ | ⟨hn, hk⟩ | ⟨hn, hk⟩ | ⟨hn, hk⟩
    · have hLL := List.eq_nil_of_length_eq_zero hn
      subst hLL
      obtain ⟨k, i, th, xs⟩ := t
      simp only [Tm.kind_mk, Tm.ty_mk] at hk hinf
      rcases hk with rfl | rfl | rfl | rfl
      · exact absurd rfl k1
      all_goals
        repeat' (first | ((with_reducible refine D.nil ?_); refine AX.nilL ?_) | ((with_reducible refine D.load ?_); refine L.ldb U U U U U U ?_) | ((with_reducible refine D.fieldAddr ?_); refine L.fab U U U U U ?_) | ((with_reducible refine D.assign ?_); refine L.asg U U U ?_) | ((with_reducible refine D.bin ?_); refine L.bn U U U U U ?_) | ((with_reducible refine D.call ?_); first | refine L.c2 (nat_c) U U U U ?_ | refine L.c2 (list_c) U U U U ?_ | refine L.c2 (unit_c) U U U U ?_) | ((with_reducible refine D.alloc ?_); refine L.al U U U ?_) | ((with_reducible refine D.store ?_); refine L.st U U U U U U U U U ?_) | ((with_reducible refine D.aw ?_); first | ((with_reducible refine D.blk ?_); refine AW.block ?_) | refine K.sq (AW.regL ?_) | refine K.sq (K.sq ?_) | refine AW.regL ?_ | refine AW.condT U ?_ | refine AW.condF U ?_ | refine AW.skip ?_ | refine AW.ret ?_) | with_reducible refine K.tN ?_ | with_reducible refine K.bN ?_ | with_reducible refine K.tR ?_ | with_reducible refine K.bR ?_ | with_reducible refine K.r1 (by with_unfolding_all rfl) (by with_unfolding_all rfl) ?_)
        simp [tupV, V.wk, V.wks, constV, Ty.view, hinf, rule, natT, listT, unitT]
    · obtain ⟨x, hLL⟩ := len_1 hn
      subst hLL
      have hx := hgood x (by simp)
      have hxn := sameTy_c _ x natT (Nat.le_refl _) (by have := e64 hx; omega)
      have hx2 : x.kind = 3 → ∃ y z, x.args = [y, z] := fun h => Ty.args_two ((Ty.err_iff _).1 hx).1 (.inl h)
      obtain ⟨k, i, th, xs⟩ := t
      simp only [Tm.kind_mk, Tm.ty_mk] at hk hinf
      rcases hk with rfl | rfl | rfl | rfl
      · exact absurd rfl k2
      · repeat' (first | ((with_reducible refine D.nil ?_); first | refine AX.nilL ?_ | refine AX.nilD (by kernel_rfl) ?_) | ((with_reducible refine D.load ?_); first | refine L.ldb U U U U U U ?_ | refine L.lda U U U U U ?_) | ((with_reducible refine D.move ?_); refine L.mv U U U ?_) | ((with_reducible refine D.fieldAddr ?_); refine L.fab U U U U U ?_) | ((with_reducible refine D.assign ?_); refine L.asg U U U ?_) | ((with_reducible refine D.bin ?_); refine L.bn U U U U U ?_) | ((with_reducible refine D.call ?_); first | refine L.c2 (nat_c) U U U U ?_ | refine L.c2 (list_c) U U U U ?_ | refine L.c2 (hxn) U U U U ?_) | ((with_reducible refine D.alloc ?_); refine L.al U U U ?_) | ((with_reducible refine D.store ?_); refine L.st U U U U U U U U U ?_) | ((with_reducible refine D.indexAddr ?_); refine L.ixt _ U U U U U U U (by (simp only [Ty.args_mk, Tm.args_mk, List.length_cons, List.length_nil, List.getElem_cons_zero, List.getElem_cons_succ]; omega)) ?_) | ((with_reducible refine D.not ?_); refine L.nt U U U ?_) | ((with_reducible refine D.ax ?_); refine L.bd U U U U U ?_) | ((with_reducible refine D.aw ?_); first | ((with_reducible refine D.blk ?_); refine AW.block ?_) | refine K.sq (AW.regL ?_) | refine K.sq (K.sq ?_) | refine AW.regL ?_ | refine AW.regD mixed (by kernel_rfl) ?_ | refine AW.condT U ?_ | refine AW.condF U ?_ | refine AW.condS U (fun h => ?_) (fun h => ?_) | refine AW.skip ?_ | refine AW.ret ?_) | with_reducible refine K.tN ?_ | with_reducible refine K.tR ?_ | with_reducible refine K.bR ?_ | with_reducible refine K.r1 (by with_unfolding_all rfl) (by with_unfolding_all rfl) ?_)
        · have h' : ¬ x = natT := by simpa using h
          simp [tupV, V.wk, V.wks, constV, Ty.view, hinf, rule, h', noTy]
        · have h' : x = natT := by simpa using h
          simp [tupV, V.wk, V.wks, constV, Ty.view, hinf, rule, h', natT]
      all_goals
        by_cases hx3 : x.kind = 3
        · obtain ⟨y, z, hyz⟩ := hx2 hx3
          obtain ⟨xk, xa⟩ := x
          simp only [Ty.kind_mk, Ty.args_mk] at hx3 hyz
          subst hx3
          subst hyz
          repeat' (first | ((with_reducible refine D.nil ?_); refine AX.nilL ?_) | ((with_reducible refine D.load ?_); first | refine L.ldb U U U U U U ?_ | refine L.lda U U U U U ?_) | ((with_reducible refine D.move ?_); refine L.mv U U U ?_) | ((with_reducible refine D.fieldAddr ?_); first | refine L.fab U U U U U ?_ | refine L.faa U U U U U U ?_) | ((with_reducible refine D.assign ?_); refine L.asg U U U ?_) | ((with_reducible refine D.bin ?_); refine L.bn U U U U U ?_) | ((with_reducible refine D.call ?_); first | refine L.c2 (nat_c) U U U U ?_ | refine L.c2 (list_c) U U U U ?_) | ((with_reducible refine D.alloc ?_); refine L.al U U U ?_) | ((with_reducible refine D.store ?_); refine L.st U U U U U U U U U ?_) | ((with_reducible refine D.indexAddr ?_); refine L.ixt _ U U U U U U U (by (simp only [Ty.args_mk, Tm.args_mk, List.length_cons, List.length_nil, List.getElem_cons_zero, List.getElem_cons_succ]; omega)) ?_) | ((with_reducible refine D.aw ?_); first | ((with_reducible refine D.blk ?_); refine AW.block ?_) | refine K.sq (AW.regL ?_) | refine K.sq (K.sq ?_) | refine AW.regL ?_ | refine AW.condT U ?_ | refine AW.condF U ?_ | refine AW.skip ?_ | refine AW.ret ?_) | with_reducible refine K.tN ?_ | with_reducible refine K.tR ?_ | with_reducible refine K.bR ?_ | with_reducible refine K.r1 (by with_unfolding_all rfl) (by with_unfolding_all rfl) ?_)
          simp [tupV, V.wk, V.wks, constV, Ty.view, EC.view, hinf, rule]
        · repeat' (first | ((with_reducible refine D.nil ?_); refine AX.nilL ?_) | ((with_reducible refine D.load ?_); first | refine L.ldb U U U U U U ?_ | refine L.lda U U U U U ?_) | ((with_reducible refine D.move ?_); refine L.mv U U U ?_) | ((with_reducible refine D.fieldAddr ?_); first | refine L.fab U U U U U ?_ | refine L.faa U U U U U U ?_) | ((with_reducible refine D.assign ?_); refine L.asg U U U ?_) | ((with_reducible refine D.bin ?_); refine L.bn U U U U U ?_) | ((with_reducible refine D.call ?_); first | refine L.c2 (nat_c) U U U U ?_ | refine L.c2 (list_c) U U U U ?_) | ((with_reducible refine D.alloc ?_); refine L.al U U U ?_) | ((with_reducible refine D.store ?_); refine L.st U U U U U U U U U ?_) | ((with_reducible refine D.indexAddr ?_); refine L.ixt _ U U U U U U U (by first | (simp only [Ty.args_mk, Tm.args_mk, List.length_cons, List.length_nil, List.getElem_cons_zero, List.getElem_cons_succ]; omega) | (simp at *; omega)) ?_) | ((with_reducible refine D.ax ?_); refine L.bd U U U U U ?_) | ((with_reducible refine D.aw ?_); first | ((with_reducible refine D.blk ?_); refine AW.block ?_) | refine K.sq (AW.regL ?_) | refine K.sq (K.sq ?_) | refine AW.regL ?_ | refine AW.condT U ?_ | refine AW.condF U ?_ | refine AW.condS U (fun h => ?_) (fun h => ?_) | refine AW.skip ?_ | refine AW.ret ?_) | with_reducible refine K.tN ?_ | with_reducible refine K.tR ?_ | with_reducible refine K.bR ?_ | with_reducible refine K.r1 (by with_unfolding_all rfl) (by with_unfolding_all rfl) ?_)
          · simp [tupV, V.wk, V.wks, constV, Ty.view, hinf, rule, hx3, noTy]
          all_goals exact absurd (by simpa using h) hx3
    · obtain ⟨x, y, hLL⟩ := len_2 hn
      subst hLL
      have hx := hgood x (by simp)
      have hy := hgood y (by simp)
      have ex := e64 hx
      have ey := e64 hy
      have hxn := sameTy_c _ x natT (Nat.le_refl _) (by omega)
      have hyl := sameTy_c _ y listT (Nat.le_refl _) (by omega)
      have hx2 : x.kind = 4 → ∃ y z, x.args = [y, z] := fun h => Ty.args_two ((Ty.err_iff _).1 hx).1 (.inr h)
      obtain ⟨k, i, th, xs⟩ := t
      simp only [Tm.kind_mk, Tm.ty_mk] at hk hinf
      rcases hk with rfl | rfl | rfl
      · by_cases hx3 : x.kind = 4
        · obtain ⟨a, b, hab⟩ := hx2 hx3
          obtain ⟨xk, xa⟩ := x
          simp only [Ty.kind_mk, Ty.args_mk] at hx3 hab
          subst hx3
          subst hab
          simp only [Ty.size, Ty.sizes] at ex
          have hay := sameTy_c _ a y (Nat.le_refl _) (by omega)
          repeat' (first | ((with_reducible refine D.nil ?_); first | refine AX.nilL ?_ | refine AX.nilD (by kernel_rfl) ?_) | ((with_reducible refine D.load ?_); first | refine L.ldb U U U U U U ?_ | refine L.lda U U U U U ?_) | ((with_reducible refine D.move ?_); refine L.mv U U U ?_) | ((with_reducible refine D.fieldAddr ?_); first | refine L.fab U U U U U ?_ | refine L.faa U U U U U U ?_) | ((with_reducible refine D.assign ?_); refine L.asg U U U ?_) | ((with_reducible refine D.bin ?_); refine L.bn U U U U U ?_) | ((with_reducible refine D.call ?_); first | refine L.c2 (nat_c) U U U U ?_ | refine L.c2 (list_c) U U U U ?_ | refine L.c2 (hay) U U U U ?_) | ((with_reducible refine D.alloc ?_); refine L.al U U U ?_) | ((with_reducible refine D.store ?_); refine L.st U U U U U U U U U ?_) | ((with_reducible refine D.indexAddr ?_); refine L.ixt _ U U U U U U U (by (simp only [Ty.args_mk, Tm.args_mk, List.length_cons, List.length_nil, List.getElem_cons_zero, List.getElem_cons_succ]; omega)) ?_) | ((with_reducible refine D.not ?_); refine L.nt U U U ?_) | ((with_reducible refine D.pick ?_); refine L.pk U U U U ?_) | ((with_reducible refine D.ax ?_); refine L.bd U U U U U ?_) | ((with_reducible refine D.aw ?_); first | ((with_reducible refine D.blk ?_); refine AW.block ?_) | refine K.sq (AW.regL ?_) | refine K.sq (K.sq ?_) | refine AW.regL ?_ | refine AW.regD mixed (by kernel_rfl) ?_ | refine AW.condT U ?_ | refine AW.condS U (fun h => ?_) (fun h => ?_) | refine AW.skip ?_ | refine AW.ret ?_) | with_reducible refine K.tN ?_ | with_reducible refine K.tR ?_ | with_reducible refine K.bR ?_ | with_reducible refine K.r1 (by with_unfolding_all rfl) (by with_unfolding_all rfl) ?_)
          · have h' : ¬ a = y := by simpa using h
            simp [tupV, V.wk, V.wks, constV, Ty.view, hinf, rule, h', noTy]
          · have h' : a = y := by simpa using h
            simp [tupV, V.wk, V.wks, constV, Ty.view, EC.view, hinf, rule, h']
        · repeat' (first | ((with_reducible refine D.nil ?_); first | refine AX.nilL ?_ | refine AX.nilD (by kernel_rfl) ?_) | ((with_reducible refine D.load ?_); first | refine L.ldb U U U U U U ?_ | refine L.lda U U U U U ?_ | refine AX.sk U U ?_) | ((with_reducible refine D.move ?_); first | refine L.mv U U U ?_ | refine AX.sk U U ?_ | ((fail_if_success refine AX.wt U ?_); refine AX.gs U U (fun _ => trivial) (fun h => ?_) (fun h => ?_))) | ((with_reducible refine D.fieldAddr ?_); first | refine L.fab U U U U U ?_ | refine L.faa U U U U U U ?_ | refine AX.sk U U ?_) | ((with_reducible refine D.assign ?_); refine L.asg U U U ?_) | ((with_reducible refine D.bin ?_); refine L.bn U U U U U ?_) | ((with_reducible refine D.call ?_); first | refine L.c2 (nat_c) U U U U ?_ | refine L.c2 (list_c) U U U U ?_ | refine AX.sk U U ?_) | ((with_reducible refine D.alloc ?_); refine L.al U U U ?_) | ((with_reducible refine D.store ?_); refine L.st U U U U U U U U U ?_) | ((with_reducible refine D.indexAddr ?_); first | refine L.ixt _ U U U U U U U (by first | (simp only [Ty.args_mk, Tm.args_mk, List.length_cons, List.length_nil, List.getElem_cons_zero, List.getElem_cons_succ]; omega) | (simp at *; omega)) ?_ | refine AX.sk U U ?_) | ((with_reducible refine D.not ?_); refine AX.sk U U ?_) | ((with_reducible refine D.pick ?_); refine L.pk U U U U ?_) | ((with_reducible refine D.ax ?_); refine L.bd U U U U U ?_) | ((with_reducible refine D.aw ?_); first | ((with_reducible refine D.blk ?_); refine AW.block ?_) | refine K.sq (AW.regL ?_) | refine K.sq (K.sq ?_) | refine AW.regL ?_ | refine AW.regD mixed (by kernel_rfl) ?_ | refine AW.condT U ?_ | refine AW.ret ?_) | with_reducible refine K.tN ?_ | with_reducible refine K.tR ?_ | with_reducible refine K.bR ?_ | with_reducible refine K.r1 (by with_unfolding_all rfl) (by with_unfolding_all rfl) ?_)
          · simp [tupV, V.wk, V.wks, constV, Ty.view, hinf, rule, hx3, noTy]
          · exact absurd (by simpa using h) hx3
      · clear hgood hLl hL hak hn hsh hcpT hty e64 hg hx2
        repeat' (first | ((with_reducible refine D.nil ?_); first | refine AX.nilL ?_ | refine AX.nilD (by kernel_rfl) ?_) | ((with_reducible refine D.load ?_); first | refine L.ldb U U U U U U ?_ | refine L.lda U U U U U ?_ | refine AX.sk U U ?_) | ((with_reducible refine D.move ?_); first | refine L.mv U U U ?_ | refine AX.sk U U ?_ | ((fail_if_success refine AX.wt U ?_); refine AX.gs U U (fun _ => trivial) (fun h => ?_) (fun h => ?_))) | ((with_reducible refine D.fieldAddr ?_); refine L.fab U U U U U ?_) | ((with_reducible refine D.assign ?_); refine L.asg U U U ?_) | ((with_reducible refine D.bin ?_); refine L.bn U U U U U ?_) | ((with_reducible refine D.call ?_); first | refine L.c2 (nat_c) U U U U ?_ | refine L.c2 (list_c) U U U U ?_ | refine L.c2 (hxn) U U U U ?_ | refine L.c2 (hyl) U U U U ?_ | refine AX.sk U U ?_) | ((with_reducible refine D.alloc ?_); refine L.al U U U ?_) | ((with_reducible refine D.store ?_); refine L.st U U U U U U U U U ?_) | ((with_reducible refine D.indexAddr ?_); first | refine L.ixt _ U U U U U U U (by (simp only [Ty.args_mk, Tm.args_mk, List.length_cons, List.length_nil, List.getElem_cons_zero, List.getElem_cons_succ]; omega)) ?_ | refine AX.sk U U ?_) | ((with_reducible refine D.not ?_); first | refine L.nt U U U ?_ | refine AX.sk U U ?_) | ((with_reducible refine D.pick ?_); refine L.pk U U U U ?_) | ((with_reducible refine D.ax ?_); refine L.bd U U U U U ?_) | ((with_reducible refine D.aw ?_); first | ((with_reducible refine D.blk ?_); refine AW.block ?_) | refine K.sq (AW.regL ?_) | refine K.sq (K.sq ?_) | refine AW.regL ?_ | refine AW.regD mixed (by kernel_rfl) ?_ | refine AW.condT U ?_ | refine AW.condF U ?_ | refine AW.condS U (fun h => ?_) (fun h => ?_) | refine AW.skip ?_ | refine AW.ret ?_) | with_reducible refine K.tN ?_ | with_reducible refine K.tR ?_ | with_reducible refine K.bR ?_ | with_reducible refine K.r1 (by with_unfolding_all rfl) (by with_unfolding_all rfl) ?_)
        all_goals
          clear hxn hyl
          by_cases p1 : x = natT <;> by_cases p2 : y = listT <;> first
            | (exfalso; simp [p1, p2] at *; done)
            | (simp [tupV, V.wk, V.wks, constV, Ty.view, EC.view, hinf, rule, p1, p2, noTy]; done)
            | (simp [tupV, V.wk, V.wks, constV, Ty.view, EC.view, hinf, rule, p1, p2]; rfl)
            | (simp [tupV, V.wk, V.wks, constV, Ty.view, EC.view, hinf, rule, p1, p2, listT]; done)
      · have htw := two_c x y (by omega) (by omega)
        have hok := okTy_c (twoT x y) (by simp only [twoT, Ty.size, Ty.sizes]; omega)
        repeat' (first | ((with_reducible refine D.nil ?_); first | refine AX.nilL ?_ | refine AX.nilD (by kernel_rfl) ?_) | ((with_reducible refine D.load ?_); first | refine L.ldb U U U U U U ?_ | refine L.lda U U U U U ?_) | ((with_reducible refine D.move ?_); refine L.mv U U U ?_) | ((with_reducible refine D.fieldAddr ?_); refine L.fab U U U U U ?_) | ((with_reducible refine D.assign ?_); refine L.asg U U U ?_) | ((with_reducible refine D.bin ?_); refine L.bn U U U U U ?_) | ((with_reducible refine D.call ?_); first | refine L.c2 (nat_c) U U U U ?_ | refine L.c2 (list_c) U U U U ?_ | refine L.c2 (htw) U U U U ?_ | refine L.c2 (hok) U U U U ?_) | ((with_reducible refine D.extract ?_); refine L.ex U U U U ?_) | ((with_reducible refine D.alloc ?_); refine L.al U U U ?_) | ((with_reducible refine D.store ?_); refine L.st U U U U U U U U U ?_) | ((with_reducible refine D.indexAddr ?_); refine L.ixt _ U U U U U U U (by (simp only [Ty.args_mk, Tm.args_mk, List.length_cons, List.length_nil, List.getElem_cons_zero, List.getElem_cons_succ]; omega)) ?_) | ((with_reducible refine D.aw ?_); first | ((with_reducible refine D.blk ?_); refine AW.block ?_) | refine K.sq (AW.regL ?_) | refine K.sq (AW.regD mixed (by kernel_rfl) ?_) | refine K.sq (K.sq ?_) | refine AW.regL ?_ | refine AW.condT U ?_ | refine AW.condF U ?_ | refine AW.ret ?_) | with_reducible refine K.tN ?_ | with_reducible refine K.tR ?_ | with_reducible refine K.bR ?_ | with_reducible refine K.r1 (by with_unfolding_all rfl) (by with_unfolding_all rfl) ?_)
        by_cases he : (twoT x y).err = 0
        · simp [tupV, V.wk, V.wks, constV, Ty.view, hinf, rule, okT, he]
        · simp [tupV, V.wk, V.wks, constV, Ty.view, hinf, rule, okT, he]
    · obtain ⟨x, y, z, hLL⟩ := len_3 hn
      subst hLL
      have hx := e64 (hgood x (by simp))
      have hy := e64 (hgood y (by simp))
      have hz := e64 (hgood z (by simp))
      have ht : t.ty.size ≤ 64 := e64 (hty (by rcases hk with hk | hk <;> rw [hk] <;> rfl))
      have hcp := copyTy_c _ t.ty (Nat.le_refl _) (by omega)
      have hs1 := sameTy_c _ x t.ty (Nat.le_refl _) (by omega)
      have hf1 := fun_c t.ty t.ty (by omega) (by omega)
      obtain ⟨k, i, th, xs⟩ := t
      simp only [Tm.kind_mk, Tm.ty_mk] at hk hinf ht hs1 hf1 hcp
      rcases hk with rfl | rfl
      · have hf2 := fun_c natT (funT th th) (by decide) (by simp only [funT, Ty.size, Ty.sizes]; omega)
        have hs2 := sameTy_c _ y (funT natT (funT th th)) (Nat.le_refl _) (by omega)
        have hs3 := sameTy_c _ z natT (Nat.le_refl _) (by omega)
        clear hgood hLl hL hak hn hsh hcpT hty e64 hg
        repeat' (first | ((with_reducible refine D.nil ?_); first | refine AX.nilL ?_ | refine AX.nilD (by kernel_rfl) ?_) | ((with_reducible refine D.load ?_); first | refine L.ldb U U U U U U ?_ | refine L.lda U U U U U ?_ | refine AX.sk U U ?_) | ((with_reducible refine D.move ?_); first | refine L.mv U U U ?_ | refine AX.sk U U ?_ | ((fail_if_success refine AX.wt U ?_); refine AX.gs U U (fun _ => trivial) (fun h => ?_) (fun h => ?_))) | ((with_reducible refine D.fieldAddr ?_); first | refine L.fab U U U U U ?_ | refine AX.sk U U ?_) | ((with_reducible refine D.assign ?_); refine L.asg U U U ?_) | ((with_reducible refine D.bin ?_); refine L.bn U U U U U ?_) | ((with_reducible refine D.call ?_); first | refine L.c2 (nat_c) U U U U ?_ | refine L.c2 (list_c) U U U U ?_ | refine L.c2 (hs1) U U U U ?_ | refine L.c2 (hf1) U U U U ?_ | refine L.c2 (hf2) U U U U ?_ | refine L.c2 (hs2) U U U U ?_ | refine L.c2 (hs3) U U U U ?_ | refine L.c2 (hcp) U U U U ?_ | refine AX.sk U U ?_) | ((with_reducible refine D.alloc ?_); refine L.al U U U ?_) | ((with_reducible refine D.store ?_); refine L.st U U U U U U U U U ?_) | ((with_reducible refine D.indexAddr ?_); first | refine L.ixt _ U U U U U U U (by (simp only [Ty.args_mk, Tm.args_mk, List.length_cons, List.length_nil, List.getElem_cons_zero, List.getElem_cons_succ]; omega)) ?_ | refine AX.sk U U ?_) | ((with_reducible refine D.not ?_); first | refine L.nt U U U ?_ | refine AX.sk U U ?_) | ((with_reducible refine D.pick ?_); refine L.pk U U U U ?_) | ((with_reducible refine D.ax ?_); refine L.bd U U U U U ?_) | ((with_reducible refine D.aw ?_); first | ((with_reducible refine D.blk ?_); refine AW.block ?_) | refine K.sq (AW.regL ?_) | refine K.sq (K.sq ?_) | refine AW.regL ?_ | refine AW.regD mixed (by kernel_rfl) ?_ | refine AW.condT U ?_ | refine AW.condF U ?_ | refine AW.condS U (fun h => ?_) (fun h => ?_) | refine AW.skip ?_ | refine AW.ret ?_) | with_reducible refine K.tN ?_ | with_reducible refine K.tR ?_ | with_reducible refine K.bR ?_ | with_reducible refine K.r1 (by with_unfolding_all rfl) (by with_unfolding_all rfl) ?_)
        all_goals
          clear hs1 hf1 hcp hf2 hs2 hs3
          by_cases p1 : x = th <;> by_cases p2 : y = funT natT (funT th th) <;> by_cases p3 : z = natT <;> first
            | (exfalso; simp [p1, p2, p3] at *; done)
            | (simp [tupV, V.wk, V.wks, constV, Ty.view, EC.view, hinf, rule, p1, p2, p3, noTy]; done)
      · have hf2 := fun_c listT (funT th th) (by decide) (by simp only [funT, Ty.size, Ty.sizes]; omega)
        have hf3 := fun_c natT (funT listT (funT th th)) (by decide) (by simp only [funT, listT, Ty.size, Ty.sizes]; omega)
        have hs2 := sameTy_c _ y (funT natT (funT listT (funT th th))) (Nat.le_refl _) (by omega)
        have hs3 := sameTy_c _ z listT (Nat.le_refl _) (by omega)
        clear hgood hLl hL hak hn hsh hcpT hty e64 hg
        repeat' (first | ((with_reducible refine D.nil ?_); first | refine AX.nilL ?_ | refine AX.nilD (by kernel_rfl) ?_) | ((with_reducible refine D.load ?_); first | refine L.ldb U U U U U U ?_ | refine L.lda U U U U U ?_ | refine AX.sk U U ?_) | ((with_reducible refine D.move ?_); first | refine L.mv U U U ?_ | refine AX.sk U U ?_ | ((fail_if_success refine AX.wt U ?_); refine AX.gs U U (fun _ => trivial) (fun h => ?_) (fun h => ?_))) | ((with_reducible refine D.fieldAddr ?_); first | refine L.fab U U U U U ?_ | refine AX.sk U U ?_) | ((with_reducible refine D.assign ?_); refine L.asg U U U ?_) | ((with_reducible refine D.bin ?_); refine L.bn U U U U U ?_) | ((with_reducible refine D.call ?_); first | refine L.c2 (nat_c) U U U U ?_ | refine L.c2 (list_c) U U U U ?_ | refine L.c2 (hs1) U U U U ?_ | refine L.c2 (hf1) U U U U ?_ | refine L.c2 (hf2) U U U U ?_ | refine L.c2 (hf3) U U U U ?_ | refine L.c2 (hs2) U U U U ?_ | refine L.c2 (hs3) U U U U ?_ | refine L.c2 (hcp) U U U U ?_ | refine AX.sk U U ?_) | ((with_reducible refine D.alloc ?_); refine L.al U U U ?_) | ((with_reducible refine D.store ?_); refine L.st U U U U U U U U U ?_) | ((with_reducible refine D.indexAddr ?_); first | refine L.ixt _ U U U U U U U (by (simp only [Ty.args_mk, Tm.args_mk, List.length_cons, List.length_nil, List.getElem_cons_zero, List.getElem_cons_succ]; omega)) ?_ | refine AX.sk U U ?_) | ((with_reducible refine D.not ?_); first | refine L.nt U U U ?_ | refine AX.sk U U ?_) | ((with_reducible refine D.pick ?_); refine L.pk U U U U ?_) | ((with_reducible refine D.ax ?_); refine L.bd U U U U U ?_) | ((with_reducible refine D.aw ?_); first | ((with_reducible refine D.blk ?_); refine AW.block ?_) | refine K.sq (AW.regL ?_) | refine K.sq (K.sq ?_) | refine AW.regL ?_ | refine AW.regD mixed (by kernel_rfl) ?_ | refine AW.condT U ?_ | refine AW.condF U ?_ | refine AW.condS U (fun h => ?_) (fun h => ?_) | refine AW.skip ?_ | refine AW.ret ?_) | with_reducible refine K.tN ?_ | with_reducible refine K.tR ?_ | with_reducible refine K.bR ?_ | with_reducible refine K.r1 (by with_unfolding_all rfl) (by with_unfolding_all rfl) ?_)
        all_goals
          clear hs1 hf1 hcp hf2 hs2 hs3
          by_cases p1 : x = th <;> by_cases p2 : y = funT natT (funT listT (funT th th)) <;> by_cases p3 : z = listT <;> first
            | (exfalso; simp [p1, p2, p3] at *; done)
            | (simp [tupV, V.wk, V.wks, constV, Ty.view, EC.view, hinf, rule, p1, p2, p3, noTy]; done)
end Go.Ab
namespace Go.Ab
open Go Go.Proofs
set_option maxRecDepth 100000
set_option maxHeartbeats 4000000
set_option linter.all false
def HT (n : Nat) : Prop := ∀ (d : Dk) (g : List Ty) (t : Ty) (k : Int), k = (n : Int) - 2 → d.ok → smalls g → t.small → 1 ≤ n → (n = 1 → t.size = 1) → g.length + 3 * n ≤ 10000 →
  AC E 21 [.ptr 0 0, .s .ty g, .agg t.view, .i k] ⟨1, [(0, .var d.cells)]⟩ (.agg (Dk.tm n d g t).1.view) ⟨1, [(0, .var (Dk.tm n d g t).2.cells)]⟩
theorem tm_full {n : Nat} (hn : n ≤ 7) (d : Dk) {g : List Ty} {t : Ty} (hg : smalls g) (ht : t.small) (h1 : 1 ≤ n) (h2 : n = 1 → t.size = 1) : (Dk.tm n d g t).1.full ≤ 50000 := by
  have := (Dk.tm_mk n d g t hg ht h1 h2).full hg ht
  have : 3 ^ n ≤ 3 ^ 7 := Nat.pow_le_pow_right (by omega) hn
  omega
abbrev F14 : AF → AF := id
theorem fin_c (n : Nat) (H : HT n) (hn : n ≤ 7) (depth : Int) (hdep : depth = (n : Int) - 1) (d : Dk) (hd : d.ok) (g : List Ty) (t : Ty) (hg : smalls g) (ht : t.small) (h0 : n = 0 → t.size = 1) (hl : g.length + 3 * (n + 1) ≤ 10000) :
    AW E Tryz.f21.ntmps 1 (partAt [1, 1, 1, 1] (bodyOf Tryz.f21)) [(0, .ptr 0 0), (1, .s .ty g), (3, .i depth), (6, .ptr 1 0), (8, .ptr 2 0)]
      ⟨3, [(0, .var d.cells), (1, .var t.view), (2, .var [.i 0, .i 0, .i 0, .slice .nil (.t .ty []), .slice .nil (.t .tm [])])]⟩
      (retQ E 1 Tryz.f21.results.toList (.agg (d.fin (Dk.tm n) (decide (2 ≤ n)) g t).1.view) ⟨1, [(0, .var (d.fin (Dk.tm n) (decide (2 ≤ n)) g t).2.cells)]⟩) := by
  have hF : 1 ≤ n → ∀ d, ∀ t, t.small → (n = 1 → t.size = 1) → (Dk.tm n d g t).1.full ≤ 50000 := fun h1 d t ht h2 => tm_full hn d hg ht h1 h2
  have hok : ∀ d g t, d.ok → (Dk.tm n d g t).2.ok := fun d g t h => Dk.tm_ok n d g t h
  rcases small_cases ht with rfl | rfl | rfl | ⟨a, b, ha, hb, h1, h2, rfl | rfl⟩
  · show AW _ _ _ (Code.seq _ _) _ _ _
    by_cases hp : 2 ≤ n
    · have hp' : depth > 0 := by omega
      have e : d.fin (Dk.tm n) (decide (2 ≤ n)) g natT = if (d.next 5).1 = 0 then (sT (Dk.tm n (d.next 5).2 g natT).1, (Dk.tm n (d.next 5).2 g natT).2)
        else if (d.next 5).1 = 1 then (apT (apT plusT (Dk.tm n (d.next 5).2 g natT).1) (Dk.tm n (Dk.tm n (d.next 5).2 g natT).2 g natT).1, (Dk.tm n (Dk.tm n (d.next 5).2 g natT).2 g natT).2)
        else if (d.next 5).1 = 2 then (apT (apT subT (Dk.tm n (d.next 5).2 g natT).1) (Dk.tm n (Dk.tm n (d.next 5).2 g natT).2 g natT).1, (Dk.tm n (Dk.tm n (d.next 5).2 g natT).2 g natT).2)
        else (numOf ((d.next 5).2.next 3).1, ((d.next 5).2.next 3).2) := by simp [Dk.fin, natT, hp]
      have hd5 := Dk.next_ok hd 5
      have hx5 := next_c d 5 hd (by omega)
      have hx3 := next_c (d.next 5).2 3 hd5 (by omega)
      have a1 := H (d.next 5).2 g natT (depth - 1) (by omega) hd5 hg small_nat (by omega) (by omega) (by omega)
      have a2 := H (Dk.tm n (d.next 5).2 g natT).2 g natT (depth - 1) (by omega) (hok _ _ _ hd5) hg small_nat (by omega) (by omega) (by omega)
      have f1 := hF (by omega) (d.next 5).2 natT small_nat (by omega)
      have f2 := hF (by omega) (Dk.tm n (d.next 5).2 g natT).2 natT small_nat (by omega)
      have hs := n_c 5 [(Dk.tm n (d.next 5).2 g natT).1] (by simp; omega)
      have p1 : plusT.full ≤ 18 := by decide
      have p2 : subT.full ≤ 36 := by decide
      have ap := appMake_c plusT [(Dk.tm n (d.next 5).2 g natT).1, (Dk.tm n (Dk.tm n (d.next 5).2 g natT).2 g natT).1] (by simp; omega)
      have asb := appMake_c subT [(Dk.tm n (d.next 5).2 g natT).1, (Dk.tm n (Dk.tm n (d.next 5).2 g natT).2 g natT).1] (by simp; omega)
      have hnum := num_c ((d.next 5).2.next 3).1
      repeat' (first | ((with_reducible refine D.nil ?_); first | refine AX.nilL ?_ | refine AX.nilD (by kernel_rfl) ?_) | ((with_reducible refine D.load ?_); refine L.ldb U U U U U U ?_) | ((with_reducible refine D.move ?_); refine L.mv U U U ?_) | ((with_reducible refine D.fieldAddr ?_); refine L.fab U U U U U ?_) | ((with_reducible refine D.assign ?_); refine L.asg U U U ?_) | ((with_reducible refine D.bin ?_); first | refine L.sb U U U U (by omega) ?_ | refine L.bn U U U U U ?_) | ((with_reducible refine D.call ?_); first | (apply L.cb2 (hx5) [0] 0 rfl; rfl; rfl; rfl; rfl; rfl; rfl; (focus ((repeat' (first | exact trivial | refine And.intro ?_ ?_ | refine ⟨_, U, _, U, _, U, ?_⟩ | exact VLe.refl _)); done)); rfl; rfl; rfl; rfl) | (apply L.cb2 (hx3) [0] 0 rfl; rfl; rfl; rfl; rfl; rfl; rfl; (focus ((repeat' (first | exact trivial | refine And.intro ?_ ?_ | refine ⟨_, U, _, U, _, U, ?_⟩ | exact VLe.refl _)); done)); rfl; rfl; rfl; rfl) | (apply L.cb2 (a1) [0] 0 rfl; rfl; rfl; rfl; rfl; rfl; rfl; (focus ((repeat' (first | exact trivial | refine And.intro ?_ ?_ | refine ⟨_, U, _, U, _, U, ?_⟩ | exact VLe.refl _)); done)); rfl; rfl; rfl; rfl) | (apply L.cb2 (a2) [0] 0 rfl; rfl; rfl; rfl; rfl; rfl; rfl; (focus ((repeat' (first | exact trivial | refine And.intro ?_ ?_ | refine ⟨_, U, _, U, _, U, ?_⟩ | exact VLe.refl _)); done)); rfl; rfl; rfl; rfl) | refine L.c2 (plus_c) U U U U ?_ | refine L.c2 (sub_c) U U U U ?_ | refine L.c2 (ap) U U U U ?_ | refine L.c2 (asb) U U U U ?_ | refine L.c2 (hnum) U U U U ?_ | refine L.c2 (hs) U U U U ?_) | ((with_reducible refine D.store ?_); refine L.st U U U U U U U U U ?_) | ((with_reducible refine D.ax ?_); first | refine L.bs1 U U U U U (EC.fold_of U) U U ?_ | refine L.bs2 U U U U U (EC.fold_of U) U U U (EC.fold_of U) U U ?_) | ((with_reducible refine D.aw ?_); first | ((with_reducible refine D.blk ?_); refine AW.block ?_) | refine K.sq (AW.regL ?_) | refine K.sq (AW.regD mixed (by kernel_rfl) ?_) | refine K.sq (K.sq ?_) | refine AW.regL ?_ | refine AW.condT U ?_ | refine AW.condS U (fun h => ?_) (fun h => ?_) | refine AW.skip ?_ | refine AW.ret ?_) | with_reducible refine K.tN ?_ | with_reducible refine K.bN ?_ | with_reducible refine K.tR ?_ | with_reducible refine K.bR ?_)
      all_goals first
        | exact absurd hp' (by simpa using h)
        | skip
      · have e := e.trans (if_pos (by simpa using h))
        (exact K.n2 [some 0] U U U U U (by (repeat' (first | exact trivial | refine And.intro ?_ ?_ | refine ⟨_, U, _, U, _, U, ?_⟩ | exact VLe.of_eq (by simp [Sto.upd, e, sT]))); done) U (by simp [tupV, V.wk, V.wks, constV, Ty.view, Tm.view, e, sT]))
      · rename_i h0
        have e := e.trans ((if_neg (by simpa using h0)).trans (if_pos (by simpa using h)))
        (exact K.n2 [some 0] U U U U U (by (repeat' (first | exact trivial | refine And.intro ?_ ?_ | refine ⟨_, U, _, U, _, U, ?_⟩ | exact VLe.of_eq (by simp [Sto.upd, e, apT]))); done) U (by simp [tupV, V.wk, V.wks, constV, Ty.view, Tm.view, e, apT]))
      · rename_i h0 h1
        have e := e.trans ((if_neg (by simpa using h0)).trans ((if_neg (by simpa using h1)).trans (if_pos (by simpa using h))))
        (exact K.n2 [some 0] U U U U U (by (repeat' (first | exact trivial | refine And.intro ?_ ?_ | refine ⟨_, U, _, U, _, U, ?_⟩ | exact VLe.of_eq (by simp [Sto.upd, e, apT]))); done) U (by simp [tupV, V.wk, V.wks, constV, Ty.view, Tm.view, e, apT]))
      · rename_i h0 h1
        have e := e.trans ((if_neg (by simpa using h0)).trans ((if_neg (by simpa using h1)).trans (if_neg (by simpa using h))))
        (exact K.n2 [some 0] U U U U U (by (repeat' (first | exact trivial | refine And.intro ?_ ?_ | refine ⟨_, U, _, U, _, U, ?_⟩ | exact VLe.of_eq (by simp [Sto.upd, e]))); done) U (by simp [tupV, V.wk, V.wks, constV, Ty.view, Tm.view, e]))
    · have hp' : ¬ depth > 0 := by omega
      have e : d.fin (Dk.tm n) (decide (2 ≤ n)) g natT = (numOf (d.next 3).1, (d.next 3).2) := by simp [Dk.fin, natT, hp]
      have hx3 := next_c d 3 hd (by omega)
      have hnum := num_c (d.next 3).1
      repeat' (first | ((with_reducible refine D.nil ?_); refine AX.nilL ?_) | ((with_reducible refine D.load ?_); refine L.ldb U U U U U U ?_) | ((with_reducible refine D.move ?_); refine L.mv U U U ?_) | ((with_reducible refine D.fieldAddr ?_); refine L.fab U U U U U ?_) | ((with_reducible refine D.assign ?_); refine L.asg U U U ?_) | ((with_reducible refine D.bin ?_); refine L.bn U U U U U ?_) | ((with_reducible refine D.call ?_); first | (apply L.cb2 (hx3) [0] 0 rfl; rfl; rfl; rfl; rfl; rfl; rfl; (focus ((repeat' (first | exact trivial | refine And.intro ?_ ?_ | refine ⟨_, U, _, U, _, U, ?_⟩ | exact VLe.refl _)); done)); rfl; rfl; rfl; rfl) | refine L.c2 (hnum) U U U U ?_) | ((with_reducible refine D.store ?_); refine L.st U U U U U U U U U ?_) | ((with_reducible refine D.aw ?_); first | ((with_reducible refine D.blk ?_); refine AW.block ?_) | refine K.sq (AW.regL ?_) | refine K.sq (K.sq ?_) | refine AW.regL ?_ | refine AW.condT U ?_ | refine AW.condS U (fun h => ?_) (fun h => ?_) | refine AW.skip ?_ | refine AW.ret ?_) | with_reducible refine K.tN ?_ | with_reducible refine K.tR ?_ | with_reducible refine K.bR ?_)
      all_goals first
        | exact absurd hp' (by simpa using h)
        | skip
      (exact K.n2 [some 0] U U U U U (by (repeat' (first | exact trivial | refine And.intro ?_ ?_ | refine ⟨_, U, _, U, _, U, ?_⟩ | exact VLe.of_eq (by simp [Sto.upd, e]))); done) U (by simp [tupV, V.wk, V.wks, constV, Ty.view, Tm.view, e]))
  · show AW _ _ _ (Code.seq _ _) _ _ _
    have hN := n_c 7 [] (by simp)
    by_cases hp : 2 ≤ n
    · have hp' : depth > 0 := by omega
      have e : d.fin (Dk.tm n) (decide (2 ≤ n)) g listT = if (d.next 2).1 = 0 then (nT 8 [(Dk.tm n (d.next 2).2 g natT).1, (Dk.tm n (Dk.tm n (d.next 2).2 g natT).2 g listT).1], (Dk.tm n (Dk.tm n (d.next 2).2 g natT).2 g listT).2) else (nT 7 [], (d.next 2).2) := by simp [Dk.fin, listT, hp]
      have hd2 := Dk.next_ok hd 2
      have hx2 := next_c d 2 hd (by omega)
      have a1 := H (d.next 2).2 g natT (depth - 1) (by omega) hd2 hg small_nat (by omega) (by omega) (by omega)
      have a2 := H (Dk.tm n (d.next 2).2 g natT).2 g listT (depth - 1) (by omega) (hok _ _ _ hd2) hg small_list (by omega) (by omega) (by omega)
      have f1 := hF (by omega) (d.next 2).2 natT small_nat (by omega)
      have f2 := hF (by omega) (Dk.tm n (d.next 2).2 g natT).2 listT small_list (by omega)
      have hs := n_c 8 [(Dk.tm n (d.next 2).2 g natT).1, (Dk.tm n (Dk.tm n (d.next 2).2 g natT).2 g listT).1] (by simp; omega)
      repeat' (first | ((with_reducible refine D.nil ?_); first | refine AX.nilL ?_ | refine AX.nilD (by kernel_rfl) ?_) | ((with_reducible refine D.load ?_); refine L.ldb U U U U U U ?_) | ((with_reducible refine D.move ?_); first | refine L.mv U U U ?_ | refine AX.sk U U ?_ | ((fail_if_success refine AX.wt U ?_); refine AX.gs U U (fun _ => trivial) (fun h => ?_) (fun h => ?_))) | ((with_reducible refine D.fieldAddr ?_); refine L.fab U U U U U ?_) | ((with_reducible refine D.assign ?_); refine L.asg U U U ?_) | ((with_reducible refine D.bin ?_); first | refine L.sb U U U U (by omega) ?_ | refine L.bn U U U U U ?_ | refine AX.sk U U ?_) | ((with_reducible refine D.call ?_); first | (apply L.cb2 (hx2) [0] 0 rfl; rfl; rfl; rfl; rfl; rfl; rfl; (focus ((repeat' (first | exact trivial | refine And.intro ?_ ?_ | refine ⟨_, U, _, U, _, U, ?_⟩ | exact VLe.refl _)); done)); rfl; rfl; rfl; rfl) | (apply L.cb2 (a1) [0] 0 rfl; rfl; rfl; rfl; rfl; rfl; rfl; (focus ((repeat' (first | exact trivial | refine And.intro ?_ ?_ | refine ⟨_, U, _, U, _, U, ?_⟩ | exact VLe.refl _)); done)); rfl; rfl; rfl; rfl) | (apply L.cb2 (a2) [0] 0 rfl; rfl; rfl; rfl; rfl; rfl; rfl; (focus ((repeat' (first | exact trivial | refine And.intro ?_ ?_ | refine ⟨_, U, _, U, _, U, ?_⟩ | exact VLe.refl _)); done)); rfl; rfl; rfl; rfl) | refine L.c2 (nat_c) U U U U ?_ | refine L.c2 (hs) U U U U ?_ | refine L.c2 (hN) U U U U ?_ | refine AX.sk U U ?_) | ((with_reducible refine D.store ?_); refine L.st U U U U U U U U U ?_) | ((with_reducible refine D.pick ?_); refine L.pk U U U U ?_) | ((with_reducible refine D.ax ?_); refine L.bs2 U U U U U (EC.fold_of U) U U U (EC.fold_of U) U U ?_) | ((with_reducible refine D.aw ?_); first | ((with_reducible refine D.blk ?_); refine AW.block ?_) | refine K.sq (AW.regL ?_) | refine K.sq (AW.regD mixed (by kernel_rfl) ?_) | refine K.sq (K.sq ?_) | refine AW.regL ?_ | refine AW.condT U ?_ | refine AW.condF U ?_ | refine AW.condS U (fun h => ?_) (fun h => ?_) | refine AW.skip ?_ | refine AW.ret ?_) | with_reducible refine K.tN ?_ | with_reducible refine K.tR ?_ | with_reducible refine K.bR ?_)
      all_goals first
        | exact absurd hp' (by simpa using h)
        | skip
      · have e := e.trans (if_pos (by simpa using h))
        (exact K.n2 [some 0] U U U U U (by (repeat' (first | exact trivial | refine And.intro ?_ ?_ | refine ⟨_, U, _, U, _, U, ?_⟩ | exact VLe.of_eq (by simp [Sto.upd, e, nT]))); done) U (by simp [tupV, V.wk, V.wks, constV, Ty.view, Tm.view, e, nT]))
      · have e := e.trans (if_neg (by simpa using h))
        (exact K.n2 [some 0] U U U U U (by (repeat' (first | exact trivial | refine And.intro ?_ ?_ | refine ⟨_, U, _, U, _, U, ?_⟩ | exact VLe.of_eq (by simp [Sto.upd, e, nT]))); done) U (by simp [tupV, V.wk, V.wks, constV, Ty.view, Tm.view, e, nT]))
    · have hp' : ¬ depth > 0 := by omega
      have e : d.fin (Dk.tm n) (decide (2 ≤ n)) g listT = (nT 7 [], d) := by simp [Dk.fin, listT, hp]
      repeat' (first | ((with_reducible refine D.nil ?_); refine AX.nilL ?_) | ((with_reducible refine D.load ?_); refine L.ldb U U U U U U ?_) | ((with_reducible refine D.move ?_); first | refine L.mv U U U ?_ | refine AX.sk U U ?_ | ((fail_if_success refine AX.wt U ?_); refine AX.gs U U (fun _ => trivial) (fun h => ?_) (fun h => ?_))) | ((with_reducible refine D.fieldAddr ?_); refine L.fab U U U U U ?_) | ((with_reducible refine D.assign ?_); refine L.asg U U U ?_) | ((with_reducible refine D.bin ?_); first | refine L.bn U U U U U ?_ | refine AX.sk U U ?_) | ((with_reducible refine D.call ?_); first | refine L.c2 (hN) U U U U ?_ | refine AX.sk U U ?_) | ((with_reducible refine D.store ?_); refine L.st U U U U U U U U U ?_) | ((with_reducible refine D.pick ?_); refine L.pk U U U U ?_) | ((with_reducible refine D.aw ?_); first | ((with_reducible refine D.blk ?_); refine AW.block ?_) | refine K.sq (AW.regL ?_) | refine K.sq (K.sq ?_) | refine AW.regL ?_ | refine AW.condT U ?_ | refine AW.condF U ?_ | refine AW.skip ?_ | refine AW.ret ?_) | with_reducible refine K.tN ?_ | with_reducible refine K.tR ?_ | with_reducible refine K.bR ?_)
      all_goals first
        | exact absurd hp' (by simpa using h)
        | skip
      (exact K.n2 [some 0] U U U U U (by (repeat' (first | exact trivial | refine And.intro ?_ ?_ | refine ⟨_, U, _, U, _, U, ?_⟩ | exact VLe.of_eq (by simp [Sto.upd, e, nT]))); done) U (by simp [tupV, V.wk, V.wks, constV, Ty.view, Tm.view, e, nT]))
  · show AW _ _ _ (Code.seq _ _) _ _ _
    have hN := n_c 13 [] (by simp)
    have e : d.fin (Dk.tm n) (decide (2 ≤ n)) g unitT = (nT 13 [], d) := by simp [Dk.fin, unitT]
    repeat' (first | ((with_reducible refine D.nil ?_); refine AX.nilL ?_) | ((with_reducible refine D.load ?_); refine L.ldb U U U U U U ?_) | ((with_reducible refine D.fieldAddr ?_); refine L.fab U U U U U ?_) | ((with_reducible refine D.assign ?_); refine L.asg U U U ?_) | ((with_reducible refine D.bin ?_); refine L.bn U U U U U ?_) | ((with_reducible refine D.call ?_); refine L.c2 (hN) U U U U ?_) | ((with_reducible refine D.store ?_); refine L.st U U U U U U U U U ?_) | ((with_reducible refine D.aw ?_); first | ((with_reducible refine D.blk ?_); refine AW.block ?_) | refine K.sq (AW.regL ?_) | refine K.sq (K.sq ?_) | refine AW.regL ?_ | refine AW.condF U ?_ | refine AW.skip ?_ | refine AW.ret ?_) | with_reducible refine K.tN ?_ | with_reducible refine K.bN ?_)
    (exact K.n2 [some 0] U U U U U (by (repeat' (first | exact trivial | refine And.intro ?_ ?_ | refine ⟨_, U, _, U, _, U, ?_⟩ | exact VLe.refl _)); done) U (by simp [tupV, V.wk, V.wks, constV, Ty.view, Tm.view, e, nT]))
  · have hn0 : n ≠ 0 := fun h => by have := h0 h; rw [two_size] at this; omega
    have sa := small_one ha h1
    have sb := small_one hb h2
    have e : d.fin (Dk.tm n) (decide (2 ≤ n)) g (twoT a b) = (nT 10 [(Dk.tm n d g a).1, (Dk.tm n (Dk.tm n d g a).2 g b).1], (Dk.tm n (Dk.tm n d g a).2 g b).2) := by simp [Dk.fin, twoT]
    have a1 := H d g a (depth - 1) (by omega) hd hg sa (by omega) (fun _ => h1) (by omega)
    have a2 := H (Dk.tm n d g a).2 g b (depth - 1) (by omega) (hok _ _ _ hd) hg sb (by omega) (fun _ => h2) (by omega)
    have f1 := hF (by omega) d a sa (fun _ => h1)
    have f2 := hF (by omega) (Dk.tm n d g a).2 b sb (fun _ => h2)
    have hs := n_c 10 [(Dk.tm n d g a).1, (Dk.tm n (Dk.tm n d g a).2 g b).1] (by simp; omega)
    have l0 : 0 < (twoT a b).args.length := by simp [twoT]
    have l1 : 1 < (twoT a b).args.length := by simp [twoT]
    show AW _ _ _ (Code.seq _ _) _ _ _
    repeat' (first | ((with_reducible refine D.nil ?_); first | refine AX.nilL ?_ | refine AX.nilD (by kernel_rfl) ?_) | ((with_reducible refine D.load ?_); first | refine L.ldb U U U U U U ?_ | refine L.lda U U U U U ?_) | ((with_reducible refine D.move ?_); refine L.mv U U U ?_) | ((with_reducible refine D.fieldAddr ?_); refine L.fab U U U U U ?_) | ((with_reducible refine D.assign ?_); refine L.asg U U U ?_) | ((with_reducible refine D.bin ?_); first | refine L.sb U U U U (by omega) ?_ | refine L.bn U U U U U ?_) | ((with_reducible refine D.call ?_); first | (apply L.cb2 (a1) [0] 0 rfl; rfl; rfl; rfl; rfl; rfl; rfl; (focus ((repeat' (first | exact trivial | refine And.intro ?_ ?_ | refine ⟨_, U, _, U, _, U, ?_⟩ | exact VLe.refl _)); done)); rfl; rfl; rfl; rfl) | (apply L.cb2 (a2) [0] 0 rfl; rfl; rfl; rfl; rfl; rfl; rfl; (focus ((repeat' (first | exact trivial | refine And.intro ?_ ?_ | refine ⟨_, U, _, U, _, U, ?_⟩ | exact VLe.refl _)); done)); rfl; rfl; rfl; rfl) | refine L.c2 (hs) U U U U ?_) | ((with_reducible refine D.store ?_); refine L.st U U U U U U U U U ?_) | ((with_reducible refine D.indexAddr ?_); refine L.ixt _ U U U U U U U (by assumption) ?_) | ((with_reducible refine D.ax ?_); refine L.bs2 U U U U U (EC.fold_of U) U U U (EC.fold_of U) U U ?_) | ((with_reducible refine D.aw ?_); first | ((with_reducible refine D.blk ?_); refine AW.block ?_) | refine K.sq (AW.regL ?_) | refine K.sq (AW.regD mixed (by kernel_rfl) ?_) | refine K.sq (K.sq ?_) | refine AW.regL ?_ | refine AW.condT U ?_ | refine AW.condF U ?_ | refine AW.ret ?_) | with_reducible refine K.tN ?_ | with_reducible refine K.tR ?_ | with_reducible refine K.bR ?_)
    (exact K.n2 [some 0] U U U U U (by (repeat' (first | exact trivial | refine And.intro ?_ ?_ | refine ⟨_, U, _, U, _, U, ?_⟩ | exact VLe.refl _)); done) U (by simp [tupV, V.wk, V.wks, constV, Ty.view, Tm.view, e, nT]))
  · have hn0 : n ≠ 0 := fun h => by have := h0 h; rw [fun_size] at this; omega
    have sa := small_one ha h1
    have sb := small_one hb h2
    have hga := smalls_app hg (smalls_cons sa smalls_nil)
    have e : d.fin (Dk.tm n) (decide (2 ≤ n)) g (funT a b) = (lmT a (Dk.tm n d (g ++ [a]) b).1, (Dk.tm n d (g ++ [a]) b).2) := by simp [Dk.fin, funT]
    have a1 := H d (g ++ [a]) b (depth - 1) (by omega) hd hga sb (by omega) (fun _ => h2) (by simp; omega)
    have f1 := tm_full hn d hga sb (by omega) (fun _ => h2)
    have hlo := longer_c g [a] (by simp; omega)
    have hs := t_c 2 a [(Dk.tm n d (g ++ [a]) b).1] (by simp; omega) (by omega)
    have l0 : 0 < (funT a b).args.length := by simp [funT]
    have l1 : 1 < (funT a b).args.length := by simp [funT]
    show AW _ _ _ (Code.seq _ _) _ _ _
    repeat' (first | ((with_reducible refine D.nil ?_); first | refine AX.nilL ?_ | refine AX.nilD (by kernel_rfl) ?_) | ((with_reducible refine D.load ?_); first | refine L.ldb U U U U U U ?_ | refine L.lda U U U U U ?_) | ((with_reducible refine D.move ?_); refine L.mv U U U ?_) | ((with_reducible refine D.fieldAddr ?_); refine L.fab U U U U U ?_) | ((with_reducible refine D.assign ?_); refine L.asg U U U ?_) | ((with_reducible refine D.bin ?_); first | refine L.sb U U U U (by omega) ?_ | refine L.bn U U U U U ?_) | ((with_reducible refine D.call ?_); first | (apply L.cb2 (a1) [0] 0 rfl; rfl; rfl; rfl; rfl; rfl; rfl; (focus ((repeat' (first | exact trivial | refine And.intro ?_ ?_ | refine ⟨_, U, _, U, _, U, ?_⟩ | exact VLe.refl _)); done)); rfl; rfl; rfl; rfl) | refine L.c2 (hlo) U U U U ?_ | refine L.c2 (hs) U U U U ?_) | ((with_reducible refine D.store ?_); refine L.st U U U U U U U U U ?_) | ((with_reducible refine D.indexAddr ?_); refine L.ixt _ U U U U U U U (by assumption) ?_) | ((with_reducible refine D.ax ?_); refine L.bs1 U U U U U (EC.fold_of U) U U ?_) | ((with_reducible refine D.aw ?_); first | ((with_reducible refine D.blk ?_); refine AW.block ?_) | refine K.sq (AW.regL ?_) | refine K.sq (AW.regD mixed (by kernel_rfl) ?_) | refine K.sq (K.sq ?_) | refine AW.regL ?_ | refine AW.condT U ?_ | refine AW.condF U ?_ | refine AW.ret ?_) | with_reducible refine K.tN ?_ | with_reducible refine K.tR ?_ | with_reducible refine K.bR ?_)
    (exact K.n2 [some 0] U U U U U (by (repeat' (first | exact trivial | refine And.intro ?_ ?_ | refine ⟨_, U, _, U, _, U, ?_⟩ | exact VLe.refl _)); done) U (by simp [tupV, V.wk, V.wks, constV, Ty.view, Tm.view, e, lmT]))
end Go.Ab
