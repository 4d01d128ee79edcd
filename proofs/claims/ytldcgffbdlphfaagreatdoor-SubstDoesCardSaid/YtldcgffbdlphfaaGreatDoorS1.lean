/- A part of the proofs of this seat's statements: H1, S1, S2, S3, S4, S5, S6, S7, S8, S9, S10, S11, S12, S13, S14, S16, S17, S19, S20, S21, S22, S26, S31, S46. It has no conditions of its own. -/
import Derived.Test.YtldcgffbdlphfaaGreatDoorA1
import Derived.Test.YtldcgffbdlphfaaGreatDoorRows
import Derived.Test.YtldcgffbdlphfaaGreatDoorD1
import Derived.Test.YtldcgffbdlphfaaGreatDoorA2
namespace Go.Ab
open Go Go.Proofs
def tab : List (TypeId × TI) := [
  (1, ⟨1, [.nilf], .other⟩),
  (2, ⟨1, [.int .i64 0], .int .i64⟩),
  (3, ⟨1, [.int .i64 0], .int .i64⟩),
  (4, ⟨1, [.bool false], .bool⟩),
  (5, ⟨1, [.int .u8 0], .int .u8⟩),
  (7, ⟨4, [.int .i64 0, .int .i64 0, .bool false, .int .u8 0], .strct [(0, 1, false), (1, 1, false), (2, 1, false), (3, 1, false)]⟩),
  (9, ⟨1, [.str ⟨#[]⟩], .str⟩),
  (12, ⟨1, [.int .u64 0], .int .u64⟩),
  (13, ⟨2, [.str ⟨#[]⟩, .int .u64 0], .strct [(0, 1, false), (1, 1, false)]⟩),
  (15, ⟨1, [.nilp], .other⟩),
  (16, ⟨1, [.nilp], .other⟩),
  (17, ⟨1, [.nilp], .other⟩),
  (18, ⟨1, [.nilp], .strct [(0, 1, false)]⟩),
  (20, ⟨1, [.raw .nilIface], .other⟩),
  (21, ⟨1, [.int .i32 0], .int .i32⟩),
  (22, ⟨1, [.slice .nil (.t .int [])], .slc (some .int) 1 8⟩),
  (23, ⟨1, [.slice .nil (.t .ty [])], .slc (some .ty) 2 32⟩),
  (24, ⟨2, [.int .i64 0, .slice .nil (.t .ty [])], .strct [(0, 1, false), (1, 1, false)]⟩),
  (25, ⟨2, [.int .i64 0, .slice .nil (.t .ty [])], .strct [(0, 1, false), (1, 1, false)]⟩),
  (26, ⟨1, [.slice .nil (.t .tm [])], .slc (some .tm) 5 72⟩),
  (27, ⟨5, [.int .i64 0, .int .i64 0, .int .i64 0, .slice .nil (.t .ty []), .slice .nil (.t .tm [])], .strct [(0, 1, false), (1, 1, false), (2, 2, true), (4, 1, false)]⟩),
  (28, ⟨5, [.int .i64 0, .int .i64 0, .int .i64 0, .slice .nil (.t .ty []), .slice .nil (.t .tm [])], .strct [(0, 1, false), (1, 1, false), (2, 2, true), (4, 1, false)]⟩),
  (29, ⟨1, [.nilf], .other⟩),
  (30, ⟨1, [.nilf], .other⟩),
  (31, ⟨1, [.nilf], .other⟩),
  (32, ⟨1, [.nilp], .other⟩),
  (33, ⟨1, [.nilf], .other⟩),
  (34, ⟨1, [.nilf], .other⟩),
  (35, ⟨1, [.nilf], .other⟩),
  (36, ⟨1, [.nilf], .other⟩),
  (37, ⟨1, [.int .i64 0], .int .i64⟩),
  (39, ⟨1, [.nilf], .other⟩),
  (41, ⟨1, [.nilf], .other⟩),
  (42, ⟨1, [.nilf], .other⟩),
  (43, ⟨2, [.int .i64 0, .int .i64 0], .arr 2 1 false⟩),
  (44, ⟨1, [.nilf], .other⟩),
  (45, ⟨1, [.slice .nil (.u 2 [])], .slc none 2 16⟩),
  (47, ⟨1, [.nilf], .other⟩),
  (48, ⟨1, [.nilf], .other⟩),
  (49, ⟨1, [.nilf], .other⟩),
  (50, ⟨1, [.nilf], .other⟩),
  (51, ⟨1, [.nilf], .other⟩),
  (52, ⟨1, [.slice .nil (.t .fm [])], .slc (some .fm) 5 88⟩),
  (53, ⟨5, [.int .i64 0, .int .i64 0, .slice .nil (.t .ty []), .slice .nil (.t .tm []), .slice .nil (.t .fm [])], .strct [(0, 1, false), (1, 2, true), (3, 1, false), (4, 1, false)]⟩),
  (54, ⟨5, [.int .i64 0, .int .i64 0, .slice .nil (.t .ty []), .slice .nil (.t .tm []), .slice .nil (.t .fm [])], .strct [(0, 1, false), (1, 2, true), (3, 1, false), (4, 1, false)]⟩),
  (55, ⟨1, [.nilf], .other⟩),
  (57, ⟨1, [.nilf], .other⟩),
  (58, ⟨1, [.nilf], .other⟩),
  (59, ⟨1, [.nilf], .other⟩),
  (60, ⟨1, [.nilf], .other⟩),
  (61, ⟨1, [.nilf], .other⟩),
  (62, ⟨1, [.nilf], .other⟩),
  (63, ⟨1, [.nilf], .other⟩),
  (64, ⟨1, [.nilf], .other⟩),
  (65, ⟨1, [.nilf], .other⟩),
  (66, ⟨1, [.nilf], .other⟩),
  (67, ⟨1, [.nilf], .other⟩),
  (69, ⟨1, [.nilf], .other⟩),
  (70, ⟨1, [.nilf], .other⟩),
  (71, ⟨1, [.nilf], .other⟩),
  (72, ⟨1, [.slice .nil (.t .tys [])], .slc (some .tys) 1 24⟩),
  (73, ⟨1, [.nilf], .other⟩),
  (74, ⟨1, [.nilf], .other⟩),
  (75, ⟨1, [.nilf], .other⟩),
  (76, ⟨1, [.nilf], .other⟩),
  (77, ⟨1, [.nilf], .other⟩),
  (78, ⟨2, [.slice .nil (.t .int []), .int .i64 0], .strct [(0, 1, false), (1, 1, false)]⟩),
  (79, ⟨2, [.slice .nil (.t .int []), .int .i64 0], .strct [(0, 1, false), (1, 1, false)]⟩),
  (80, ⟨1, [.nilf], .other⟩),
  (81, ⟨1, [.nilf], .other⟩),
  (82, ⟨1, [.nilf], .other⟩),
  (83, ⟨1, [.nilf], .other⟩),
  (84, ⟨1, [.nilf], .other⟩),
  (85, ⟨1, [.nilf], .other⟩),
  (86, ⟨1, [.nilf], .other⟩),
  (87, ⟨1, [.nilf], .other⟩),
  (88, ⟨1, [.raw (.map none)], .other⟩),
  (89, ⟨1, [.nilf], .other⟩),
  (90, ⟨1, [.nilf], .other⟩),
  (91, ⟨1, [.nilf], .other⟩),
  (92, ⟨1, [.nilf], .other⟩),
  (93, ⟨1, [.nilf], .other⟩),
  (94, ⟨1, [.nilf], .other⟩),
  (95, ⟨1, [.nilf], .other⟩),
  (96, ⟨1, [.nilf], .other⟩),
  (97, ⟨1, [.nilf], .other⟩),
  (98, ⟨1, [.nilf], .other⟩),
  (99, ⟨1, [.nilf], .other⟩),
  (100, ⟨1, [.nilf], .other⟩),
  (101, ⟨1, [.nilf], .other⟩),
  (102, ⟨1, [.nilf], .other⟩),
  (103, ⟨1, [.nilf], .other⟩),
  (104, ⟨1, [.nilf], .other⟩),
  (105, ⟨1, [.nilf], .other⟩),
  (106, ⟨1, [.nilf], .other⟩),
  (107, ⟨1, [.nilf], .other⟩),
  (108, ⟨1, [.nilf], .other⟩),
  (109, ⟨1, [.nilf], .other⟩),
  (110, ⟨1, [.nilf], .other⟩),
  (111, ⟨1, [.nilf], .other⟩),
  (112, ⟨1, [.nilf], .other⟩),
  (113, ⟨1, [.nilf], .other⟩),
  (114, ⟨1, [.nilf], .other⟩),
  (115, ⟨1, [.nilf], .other⟩),
  (116, ⟨1, [.nilf], .other⟩),
  (117, ⟨1, [.nilf], .other⟩),
  (118, ⟨1, [.slice .nil (.t .sz [])], .slc (some .sz) 3 40⟩),
  (119, ⟨1, [.slice .nil (.t .sz [])], .slc (some .sz) 3 40⟩),
  (120, ⟨1, [.nilf], .other⟩),
  (121, ⟨1, [.nilf], .other⟩),
  (122, ⟨1, [.nilp], .other⟩),
  (123, ⟨1, [.nilf], .other⟩),
  (124, ⟨1, [.nilf], .other⟩),
  (125, ⟨1, [.nilf], .other⟩),
  (126, ⟨1, [.nilf], .other⟩),
  (127, ⟨1, [.nilf], .other⟩),
  (128, ⟨1, [.nilf], .other⟩),
  (129, ⟨1, [.nilf], .other⟩),
  (130, ⟨1, [.nilf], .other⟩),
  (131, ⟨1, [.nilf], .other⟩),
  (132, ⟨1, [.nilf], .other⟩),
  (133, ⟨1, [.nilf], .other⟩),
  (134, ⟨1, [.nilf], .other⟩),
  (135, ⟨1, [.nilf], .other⟩),
  (136, ⟨1, [.nilf], .other⟩),
  (137, ⟨3, [.int .i64 0, .slice .nil (.t .ty []), .int .i64 0], .strct [(0, 2, true), (2, 1, false)]⟩),
  (138, ⟨3, [.int .i64 0, .slice .nil (.t .ty []), .int .i64 0], .strct [(0, 2, true), (2, 1, false)]⟩),
  (139, ⟨1, [.nilf], .other⟩),
  (140, ⟨1, [.nilf], .other⟩),
  (142, ⟨1, [.nilf], .other⟩),
  (143, ⟨1, [.nilf], .other⟩),
  (144, ⟨1, [.nilf], .other⟩),
  (145, ⟨1, [.nilf], .other⟩),
  (146, ⟨1, [.nilf], .other⟩),
  (147, ⟨1, [.nilf], .other⟩),
  (148, ⟨1, [.int .u64 0], .int .u64⟩),
  (149, ⟨1, [.nilf], .other⟩),
  (150, ⟨1, [.nilf], .other⟩),
  (151, ⟨1, [.nilf], .other⟩),
  (153, ⟨1, [.nilf], .other⟩),
  (154, ⟨1, [.nilf], .other⟩),
  (155, ⟨1, [.nilf], .other⟩),
  (156, ⟨1, [.int .i64 0], .int .i64⟩),
  (158, ⟨1, [.nilf], .other⟩),
  (159, ⟨1, [.nilf], .other⟩),
  (160, ⟨1, [.nilf], .other⟩),
  (161, ⟨1, [.nilf], .other⟩),
  (162, ⟨1, [.nilf], .other⟩),
  (163, ⟨1, [.nilf], .other⟩),
  (164, ⟨1, [.int .u32 0], .int .u32⟩),
  (165, ⟨1, [.nilf], .other⟩),
  (166, ⟨1, [.int .u64 0], .int .u64⟩),
  (167, ⟨1, [.nilf], .other⟩),
  (169, ⟨1, [.nilf], .other⟩),
  (170, ⟨14, [.int .i64 0, .int .i64 0, .int .i64 0, .int .i64 0, .int .i64 0, .int .i64 0, .int .i64 0, .int .i64 0, .int .i64 0, .int .i64 0, .int .i64 0, .int .i64 0, .int .i64 0, .int .i64 0], .arr 14 1 false⟩),
  (171, ⟨1, [.int .u64 0], .int .u64⟩),
  (172, ⟨1, [.nilf], .other⟩),
  (173, ⟨1, [.nilf], .other⟩),
  (174, ⟨1, [.nilf], .other⟩),
  (175, ⟨1, [.nilp], .other⟩),
  (176, ⟨1, [.nilf], .other⟩),
  (177, ⟨1, [.nilf], .other⟩),
  (178, ⟨9, [.int .i64 0, .slice .nil (.t .ty []), .int .i64 0, .int .i64 0, .slice .nil (.t .ty []), .int .i64 0, .int .i64 0, .slice .nil (.t .ty []), .int .i64 0], .arr 3 3 true⟩),
  (179, ⟨1, [.nilf], .other⟩),
  (180, ⟨1, [.nilf], .other⟩),
  (181, ⟨1, [.nilp], .other⟩),
  (183, ⟨1, [.nilf], .other⟩),
  (184, ⟨1, [.nilf], .other⟩),
  (185, ⟨1, [.nilf], .other⟩),
  (186, ⟨1, [.nilf], .other⟩),
  (187, ⟨1, [.nilf], .other⟩),
  (188, ⟨1, [.nilf], .other⟩),
  (189, ⟨1, [.nilf], .other⟩),
  (190, ⟨4, [.nilp, .nilp, .nilp, .str ⟨#[]⟩], .strct [(0, 1, false), (1, 1, false), (2, 1, false), (3, 1, false)]⟩),
  (192, ⟨0, [], .arr 0 1 false⟩),
  (195, ⟨1, [.nilf], .other⟩),
  (198, ⟨1, [.nilf], .other⟩),
  (199, ⟨1, [.nilp], .other⟩),
  (202, ⟨11, [.int .u64 0, .int .u64 0, .int .u32 0, .int .u8 0, .int .u8 0, .int .u8 0, .int .u8 0, .nilf, .nilp, .int .i32 0, .int .i32 0], .strct [(0, 1, false), (1, 1, false), (2, 1, false), (3, 1, false), (4, 1, false), (5, 1, false), (6, 1, false), (7, 1, false), (8, 1, false), (9, 1, false), (10, 1, false)]⟩)]

set_option maxRecDepth 100000
theorem tab_ok : tab.all (fun p => tiB Tryz.prog p.1 p.2) = true := by kernel_rfl
def arV : List V := [.i 0, .i 0, .i 1, .i 2, .i 0, .i 1, .i 3, .i 0, .i 2, .i 3, .i 2, .i 1, .i 1, .i 0]
noncomputable def E : Env := ⟨Tryz.prog, [(0, arV)], tab, tab_ok⟩
end Go.Ab
namespace Go.Ab
open Go Go.Proofs
set_option maxRecDepth 100000
set_option linter.all false
theorem mixed : E.P.follows .mixedOrders = true := Tryz.checked.mixed

theorem copyTy_c : ∀ (b : Nat) (t : Ty), t.size ≤ b → b < 1099511627776 → PC E 134 [.agg t.view] (.agg t.view) := by
  intro b
  induction b with
  | zero => intro t h; have := t.size_pos; omega
  | succ b ih =>
  intro t hsz hb
  have hsz' := Ty.size_eq t
  have hlen := lsum_len Ty.size Ty.size_pos t.args
  refine AC.mk Tryz.func134 rfl rfl rfl rfl rfl (Nat.le_of_ble_eq_true rfl) ?_
  repeat' (first | ((with_reducible refine D.nil ?_); refine AX.nilL ?_) | ((with_reducible refine D.load ?_); refine L.ldb U U U U U U ?_) | ((with_reducible refine D.move ?_); refine L.mv U U U ?_) | ((with_reducible refine D.fieldAddr ?_); refine L.fab U U U U U ?_) | ((with_reducible refine D.assign ?_); refine L.asg U U U ?_) | ((with_reducible refine D.call ?_); refine L.lnt U U U U ?_) | ((with_reducible refine D.box ?_); refine L.bx U U U U ?_) | ((with_reducible refine D.alloc ?_); refine L.al U U U ?_) | ((with_reducible refine D.aw ?_); first | refine K.sq (AW.regL ?_) | refine K.sq (K.sq ?_) | refine AW.regL ?_) | with_reducible refine K.tN ?_)
  refine AW.range t.args.length (fun m => True)
    (fun m => ([(1, .ptr 0 0), (2, .ptr 1 0), (3, .slice (.own 2) (.t .ty (t.args.take m))), (7, .s .ty t.args), (8, .i t.args.length), (9, .i m)], ⟨3, [(0, .var t.view), (1, .var [.i 0, .slice .nil (.t .ty [])]), (2, .row)]⟩))
    (by omega) (fun m => rfl) (fun m => rfl) U trivial (Weak.mk [some 0, some 1, none] _ _ _ U U U U (by (repeat' (first | exact trivial | refine And.intro ?_ ?_ | refine ⟨_, U, _, U, ?_⟩ | exact VLe.refl _)); done) (by (repeat' (first | exact trivial | exact Or.inl U | refine And.intro ?_ ?_ | refine ⟨_, U, _, U, _, U, ?_⟩ | exact VLe.refl _)); done)) ?_ ?_
  · intro m hm hP
    have hs2 := lsum_mem Ty.size (List.getElem_mem hm)
    repeat' (first | ((with_reducible refine D.nil ?_); refine AX.nilL ?_) | ((with_reducible refine D.load ?_); first | refine L.ldb U U U U U U ?_ | refine L.lda U U U U U ?_) | ((with_reducible refine D.move ?_); refine L.mv U U U ?_) | ((with_reducible refine D.assign ?_); refine L.asg U U U ?_) | ((with_reducible refine D.call ?_); first | refine L.apt U U U U U U (by first | exact trivial | exact ⟨rfl, trivial⟩) U U (by first | omega | (simp; omega)) ?_ | refine L.c2 (ih _ ?_ ?_) U U U U ?_) | ((with_reducible refine D.alloc ?_); refine L.al U U U ?_) | ((with_reducible refine D.store ?_); refine L.st U U U U U U U U U ?_) | ((with_reducible refine D.indexAddr ?_); refine L.ixt _ U U U U U U U (by assumption) ?_) | ((with_reducible refine D.ax ?_); refine L.bs1 U U U U U U U U ?_) | ((with_reducible refine D.aw ?_); first | refine K.sq (AW.regL ?_) | refine AW.regL ?_) | with_reducible refine K.tN ?_ | with_reducible refine K.bN ?_ | ((with_reducible show @LE.le Nat _ _ _); omega) | ((with_reducible show @LT.lt Nat _ _ _); omega))
    exact ⟨rfl, trivial, (Weak.mk [some 0, some 1, some 4] _ _ _ U U U U (by (repeat' (first | exact trivial | refine And.intro ?_ ?_ | refine ⟨_, U, _, U, ?_⟩ | exact VLe.refl _ | exact VLe.of_eq (by simp [Sto.upd, List.take_append_getElem]))); done) (by (repeat' (first | exact trivial | exact Or.inr ⟨_, U, rfl⟩ | refine And.intro ?_ ?_ | refine ⟨_, U, _, U, _, U, ?_⟩ | exact VLe.refl _)); done))⟩
  · intro hP
    repeat' (first | ((with_reducible refine D.nil ?_); refine AX.nilL ?_) | ((with_reducible refine D.load ?_); refine L.ldb U U U U U U ?_) | ((with_reducible refine D.move ?_); refine L.mv U U U ?_) | ((with_reducible refine D.fieldAddr ?_); refine L.fab U U U U U ?_) | ((with_reducible refine D.store ?_); refine L.st U U U U U U U U U ?_) | ((with_reducible refine D.ax ?_); refine L.bd U U U U U ?_) | ((with_reducible refine D.aw ?_); first | refine K.sq (AW.regL ?_) | refine AW.ret ?_) | with_reducible refine K.tN ?_ | with_reducible refine K.r1 (by with_unfolding_all rfl) (by with_unfolding_all rfl) ?_)
    simp [tupV, V.wk, V.wks, constV, Ty.view, Tm.view]
theorem ownTy_c : ∀ (b : Nat) (t : Ty), t.size ≤ b → b < 1099511627776 → PC E 179 [.agg t.view] (.agg t.view) := by
  intro b
  induction b with
  | zero => intro t h; have := t.size_pos; omega
  | succ b ih =>
  intro t hsz hb
  have hsz' := Ty.size_eq t
  have hlen := lsum_len Ty.size Ty.size_pos t.args
  refine AC.mk Tryz.func179 rfl rfl rfl rfl rfl (Nat.le_of_ble_eq_true rfl) ?_
  repeat' (first | ((with_reducible refine D.nil ?_); refine AX.nilL ?_) | ((with_reducible refine D.load ?_); refine L.ldb U U U U U U ?_) | ((with_reducible refine D.move ?_); refine L.mv U U U ?_) | ((with_reducible refine D.fieldAddr ?_); refine L.fab U U U U U ?_) | ((with_reducible refine D.call ?_); refine L.lnt U U U U ?_) | ((with_reducible refine D.box ?_); refine L.bx U U U U ?_) | ((with_reducible refine D.alloc ?_); refine L.al U U U ?_) | ((with_reducible refine D.store ?_); refine L.st U U U U U U U U U ?_) | ((with_reducible refine D.ax ?_); refine L.bd U U U U U ?_) | ((with_reducible refine D.aw ?_); first | refine K.sq (AW.regL ?_) | refine K.sq (K.sq ?_) | refine AW.regL ?_) | with_reducible refine K.tN ?_)
  refine AW.range t.args.length (fun m => True)
    (fun m => ([(1, .ptr 0 0), (2, .ptr 1 0), (3, .ptr 2 0), (10, .s .ty t.args), (11, .i t.args.length), (12, .i m)], ⟨4, [(0, .var t.view), (1, .var [.i 0, .slice .nil (.t .ty [])]), (2, .var [.i t.kind, .slice (.own 3) (.t .ty (t.args.take m))]), (3, .row)]⟩))
    (by omega) (fun m => rfl) (fun m => rfl) U trivial (Weak.mk [some 0, some 1, some 2, none] _ _ _ U U U U (by (repeat' (first | exact trivial | refine And.intro ?_ ?_ | refine ⟨_, U, _, U, ?_⟩ | exact VLe.refl _)); done) (by (repeat' (first | exact trivial | exact Or.inl U | refine And.intro ?_ ?_ | refine ⟨_, U, _, U, _, U, ?_⟩ | exact VLe.refl _)); done)) ?_ ?_
  · intro m hm hP
    have hs2 := lsum_mem Ty.size (List.getElem_mem hm)
    repeat' (first | ((with_reducible refine D.nil ?_); first | refine AX.nilL ?_ | refine AX.nilD (by kernel_rfl) ?_) | ((with_reducible refine D.load ?_); first | refine L.ldb U U U U U U ?_ | refine L.lda U U U U U ?_) | ((with_reducible refine D.fieldAddr ?_); refine L.fab U U U U U ?_) | ((with_reducible refine D.call ?_); first | refine L.apt U U U U U U (by first | exact trivial | exact ⟨rfl, trivial⟩) U U (by first | omega | (simp; omega)) ?_ | refine L.c2 (ih _ ?_ ?_) U U U U ?_) | ((with_reducible refine D.alloc ?_); refine L.al U U U ?_) | ((with_reducible refine D.store ?_); refine L.st U U U U U U U U U ?_) | ((with_reducible refine D.indexAddr ?_); refine L.ixt _ U U U U U U U (by assumption) ?_) | ((with_reducible refine D.ax ?_); refine L.bs1 U U U U U U U U ?_) | ((with_reducible refine D.aw ?_); first | refine K.sq (AW.regL ?_) | refine AW.regD mixed (by kernel_rfl) ?_) | with_reducible refine K.tN ?_ | with_reducible refine K.bN ?_ | ((with_reducible show @LE.le Nat _ _ _); omega) | ((with_reducible show @LT.lt Nat _ _ _); omega))
    exact ⟨rfl, trivial, (Weak.mk [some 0, some 1, some 2, some 5] _ _ _ U U U U (by (repeat' (first | exact trivial | refine And.intro ?_ ?_ | refine ⟨_, U, _, U, ?_⟩ | exact VLe.refl _)); done) (by (repeat' (first | exact trivial | exact Or.inr ⟨_, U, rfl⟩ | refine And.intro ?_ ?_ | refine ⟨_, U, _, U, _, U, ?_⟩ | exact VLe.refl _ | exact VLe.of_eq (by simp [Sto.upd, List.take_append_getElem]))); done))⟩
  · intro hP
    repeat' (first | ((with_reducible refine D.nil ?_); refine AX.nilL ?_) | ((with_reducible refine D.load ?_); refine L.ldb U U U U U U ?_) | ((with_reducible refine D.store ?_); refine L.st U U U U U U U U U ?_) | ((with_reducible refine D.aw ?_); first | refine K.sq (AW.regL ?_) | refine AW.ret ?_) | with_reducible refine K.tN ?_ | with_reducible refine K.r1 (by with_unfolding_all rfl) (by with_unfolding_all rfl) ?_)
    simp [tupV, V.wk, V.wks, constV, Ty.view, Tm.view]
theorem typeNodes_c : ∀ (b : Nat) (t : Ty), t.size ≤ b → b < 1099511627776 → PC E 200 [.agg t.view] (nodesT t) := by
  intro b
  induction b with
  | zero => intro t h; have := t.size_pos; omega
  | succ b ih =>
  intro t hsz hb
  have hsz' := Ty.size_eq t
  have hlen := lsum_len Ty.size Ty.size_pos t.args
  have hsh := Ty.shape_eq t
  refine AC.mk Tryz.func200 rfl rfl rfl rfl rfl (Nat.le_of_ble_eq_true rfl) ?_
  repeat' (first | ((with_reducible refine D.nil ?_); refine AX.nilL ?_) | ((with_reducible refine D.load ?_); refine L.ldb U U U U U U ?_) | ((with_reducible refine D.fieldAddr ?_); refine L.fab U U U U U ?_) | ((with_reducible refine D.assign ?_); refine L.asg U U U ?_) | ((with_reducible refine D.box ?_); refine L.bx U U U U ?_) | ((with_reducible refine D.aw ?_); first | refine K.sq (AW.regL ?_) | refine K.sq (K.sq ?_) | refine AW.regL ?_) | with_reducible refine K.tN ?_)
  refine AW.cutT (ι := { n : Nat // arT t.kind = some n }) (fun n => ([(1, .ptr 0 0), (4, .i n.1)], ⟨1, [(0, .var t.view)]⟩)) ?_ ?_
  · refine AW.block ?_
    repeat' (first | ((with_reducible refine D.nil ?_); refine AX.nilL ?_) | ((with_reducible refine D.assign ?_); refine L.asg U U U ?_) | ((with_reducible refine D.bin ?_); refine L.bn U U U U U ?_) | ((with_reducible refine D.aw ?_); first | refine K.sq (AW.regL ?_) | refine K.sq (K.sq ?_) | refine AW.regL ?_ | refine AW.condT U ?_ | refine AW.condS U (fun h => ?_) (fun h => ?_) | refine AW.skip ?_ | refine AW.ret ?_) | with_reducible refine K.tN ?_ | with_reducible refine K.bN ?_ | with_reducible refine K.bR ?_ | with_reducible refine K.cR ?_ | with_reducible refine K.r1 (by with_unfolding_all rfl) (by with_unfolding_all rfl) ?_)
    · exact ⟨⟨0, by simp at h; simp [arT, h]⟩, (Weak.mk [some 0] _ _ _ U U U U (by (repeat' (first | exact trivial | refine And.intro ?_ ?_ | refine ⟨_, U, _, U, ?_⟩ | exact VLe.refl _)); done) (by (repeat' (first | exact trivial | refine And.intro ?_ ?_ | refine ⟨_, U, _, U, _, U, ?_⟩ | exact VLe.refl _)); done))⟩
    · exact ⟨⟨0, by simp at h; simp [arT, h]⟩, (Weak.mk [some 0] _ _ _ U U U U (by (repeat' (first | exact trivial | refine And.intro ?_ ?_ | refine ⟨_, U, _, U, ?_⟩ | exact VLe.refl _)); done) (by (repeat' (first | exact trivial | refine And.intro ?_ ?_ | refine ⟨_, U, _, U, _, U, ?_⟩ | exact VLe.refl _)); done))⟩
    · exact ⟨⟨0, by simp at h; simp [arT, h]⟩, (Weak.mk [some 0] _ _ _ U U U U (by (repeat' (first | exact trivial | refine And.intro ?_ ?_ | refine ⟨_, U, _, U, ?_⟩ | exact VLe.refl _)); done) (by (repeat' (first | exact trivial | refine And.intro ?_ ?_ | refine ⟨_, U, _, U, _, U, ?_⟩ | exact VLe.refl _)); done))⟩
    · exact ⟨⟨2, by simp at h; simp [arT, h]⟩, (Weak.mk [some 0] _ _ _ U U U U (by (repeat' (first | exact trivial | refine And.intro ?_ ?_ | refine ⟨_, U, _, U, ?_⟩ | exact VLe.refl _)); done) (by (repeat' (first | exact trivial | refine And.intro ?_ ?_ | refine ⟨_, U, _, U, _, U, ?_⟩ | exact VLe.refl _)); done))⟩
    · exact ⟨⟨2, by simp at h; simp [arT, h]⟩, (Weak.mk [some 0] _ _ _ U U U U (by (repeat' (first | exact trivial | refine And.intro ?_ ?_ | refine ⟨_, U, _, U, ?_⟩ | exact VLe.refl _)); done) (by (repeat' (first | exact trivial | refine And.intro ?_ ?_ | refine ⟨_, U, _, U, _, U, ?_⟩ | exact VLe.refl _)); done))⟩
    · have : t.shape = false := by simp at *; simp [hsh, arT, *]
      simp [nodesT, Ty.nodes, this, tupV, constV, V.wk, V.wks]
  rintro ⟨n, hn⟩
  repeat' (first | ((with_reducible refine D.nil ?_); refine AX.nilL ?_) | ((with_reducible refine D.load ?_); refine L.ldb U U U U U U ?_) | ((with_reducible refine D.move ?_); refine L.mv U U U ?_) | ((with_reducible refine D.fieldAddr ?_); refine L.fab U U U U U ?_) | ((with_reducible refine D.assign ?_); refine L.asg U U U ?_) | ((with_reducible refine D.bin ?_); refine L.bn U U U U U ?_) | ((with_reducible refine D.call ?_); refine L.lnt U U U U ?_) | ((with_reducible refine D.aw ?_); first | refine K.sq (AW.regL ?_) | refine K.sq (K.sq ?_) | refine AW.regL ?_ | refine AW.condS U (fun h => ?_) (fun h => ?_) | refine AW.skip ?_ | refine AW.ret ?_) | with_reducible refine K.tN ?_ | with_reducible refine K.tR ?_ | with_reducible refine K.r1 (by with_unfolding_all rfl) (by with_unfolding_all rfl) ?_)
  · have h1 : ¬ t.args.length = n := by simp at h; omega
    have : t.shape = false := by simp [hsh, hn, h1]
    simp [nodesT, Ty.nodes, this, tupV, constV, V.wk, V.wks]
  have hn' : t.args.length = n := by simp at h; omega
  refine AW.range t.args.length (fun m => ∀ j (hj : j < t.args.length), j < m → (t.args[j]).shape = true)
    (fun m => ([(1, .ptr 0 0), (5, .i (1 + ((t.args.take m).map Ty.size).sum)), (25, .s .ty t.args), (26, .i t.args.length), (27, .i m)], ⟨1, [(0, .var t.view)]⟩))
    (by omega) (fun m => rfl) (fun m => rfl) U (by intro j hj h; omega) (Weak.mk [some 0] _ _ _ U U U U (by (repeat' (first | exact trivial | refine And.intro ?_ ?_ | refine ⟨_, U, _, U, ?_⟩ | exact VLe.refl _)); done) (by (repeat' (first | exact trivial | refine And.intro ?_ ?_ | refine ⟨_, U, _, U, _, U, ?_⟩ | exact VLe.refl _)); done)) ?_ ?_
  · intro m hm hP
    have hs1 := lsum_take Ty.size t.args m hm
    have hs2 := lsum_mem Ty.size (List.getElem_mem hm)
    have hs3 := lsum_take_le Ty.size t.args (m + 1)
    have hs4 := Ty.nodes_le t.args[m]
    repeat' (first | ((with_reducible refine D.nil ?_); refine AX.nilL ?_) | ((with_reducible refine D.load ?_); first | refine L.ldb U U U U U U ?_ | refine L.lda U U U U U ?_) | ((with_reducible refine D.move ?_); refine L.mv U U U ?_) | ((with_reducible refine D.assign ?_); refine L.asg U U U ?_) | ((with_reducible refine D.bin ?_); refine L.ad U U U U (by omega) ?_) | ((with_reducible refine D.call ?_); refine L.c2 (ih _ ?_ ?_) U U U U ?_) | ((with_reducible refine D.extract ?_); refine L.ex U U U U ?_) | ((with_reducible refine D.alloc ?_); refine L.al U U U ?_) | ((with_reducible refine D.store ?_); refine L.st U U U U U U U U U ?_) | ((with_reducible refine D.indexAddr ?_); refine L.ixt _ U U U U U U U (by assumption) ?_) | ((with_reducible refine D.not ?_); refine L.nt U U U ?_) | ((with_reducible refine D.aw ?_); first | refine K.sq (AW.regL ?_) | refine K.sq (K.sq ?_) | refine AW.regL ?_ | refine AW.condS U (fun h => ?_) (fun h => ?_) | refine AW.skip ?_ | refine AW.ret ?_) | with_reducible refine K.tN ?_ | with_reducible refine K.bN ?_ | with_reducible refine K.tR ?_ | with_reducible refine K.bR ?_ | with_reducible refine K.gR ?_ | with_reducible refine K.r1 (by with_unfolding_all rfl) (by with_unfolding_all rfl) ?_ | ((with_reducible show @LE.le Nat _ _ _); omega) | ((with_reducible show @LT.lt Nat _ _ _); omega))
    · have h1 : (t.args[m]).shape = false := by simpa using h
      have : t.shape = false := by rw [hsh, all_not Ty.shape hm h1, Bool.and_false]
      simp [nodesT, Ty.nodes, this, tupV, constV, V.wk, V.wks]
    · have hh : (t.args[m]).shape = true := by simpa using h
      refine ⟨rfl, all_step (p := fun t => Ty.shape t = true) hm hP hh, ?_⟩
      have e : (1 + ((((t.args.take (m + 1)).map Ty.size).sum : Nat) : Int)) = 1 + (((t.args.take m).map Ty.size).sum : Nat) + t.args[m].nodes := by simp only [Ty.nodes, hh, hs1]; simp; omega
      simp only [e]
      exact (Weak.mk [some 0] _ _ _ U U U U (by (repeat' (first | exact trivial | refine And.intro ?_ ?_ | refine ⟨_, U, _, U, ?_⟩ | exact VLe.refl _)); done) (by (repeat' (first | exact trivial | refine And.intro ?_ ?_ | refine ⟨_, U, _, U, _, U, ?_⟩ | exact VLe.refl _)); done))
  · intro hP
    have : t.shape = true := by simp only [hsh, hn, hn', all_of Ty.shape t.args fun j hj => hP j hj hj]; simp
    repeat' (first | ((with_reducible refine D.nil ?_); refine AX.nilL ?_) | ((with_reducible refine D.move ?_); refine L.mv U U U ?_) | ((with_reducible refine D.assign ?_); refine L.asg U U U ?_) | ((with_reducible refine D.aw ?_); first | refine K.sq (AW.regL ?_) | refine AW.ret ?_) | with_reducible refine K.tN ?_ | with_reducible refine K.r1 (by with_unfolding_all rfl) (by with_unfolding_all rfl) ?_)
    simp [nodesT, Ty.nodes, this, tupV, constV, hsz', V.wk, V.wks]
end Go.Ab
namespace Go.Ab
open Go Go.Proofs
set_option maxRecDepth 100000
set_option linter.all false

theorem var_c (i : Int) : PC E 54 [.i i] (.agg (Tm.mk 1 i (.mk 0 []) []).view) := by
  refine AC.mk Tryz.func54 rfl rfl rfl rfl rfl (Nat.le_of_ble_eq_true rfl) ?_
  repeat' (first | ((with_reducible refine D.nil ?_); refine AX.nilL ?_) | ((with_reducible refine D.move ?_); refine L.mv U U U ?_) | ((with_reducible refine D.alloc ?_); refine L.al U U U ?_) | ((with_reducible refine D.store ?_); refine L.st U U U U U U U U U ?_) | ((with_reducible refine D.ax ?_); refine L.bd U U U U U ?_) | ((with_reducible refine D.aw ?_); first | refine K.sq (AW.regL ?_) | refine AW.ret ?_) | with_reducible refine K.tN ?_ | with_reducible refine K.r1 (by with_unfolding_all rfl) (by with_unfolding_all rfl) ?_)
  simp [tupV, V.wk, V.wks, constV, Ty.view, Tm.view]
theorem tvar_c (i : Int) : PC E 106 [.i i] (.agg (Tm.mk 1 i (.mk 0 []) []).view) := by
  refine AC.mk Tryz.func106 rfl rfl rfl rfl rfl (Nat.le_of_ble_eq_true rfl) ?_
  repeat' (first | ((with_reducible refine D.nil ?_); refine AX.nilL ?_) | ((with_reducible refine D.move ?_); refine L.mv U U U ?_) | ((with_reducible refine D.alloc ?_); refine L.al U U U ?_) | ((with_reducible refine D.store ?_); refine L.st U U U U U U U U U ?_) | ((with_reducible refine D.ax ?_); refine L.bd U U U U U ?_) | ((with_reducible refine D.aw ?_); first | refine K.sq (AW.regL ?_) | refine AW.ret ?_) | with_reducible refine K.tN ?_ | with_reducible refine K.r1 (by with_unfolding_all rfl) (by with_unfolding_all rfl) ?_)
  simp [tupV, V.wk, V.wks, constV, Ty.view, Tm.view]
theorem nat_c : PC E 56 [] (.agg (Ty.mk 1 []).view) := by
  refine AC.mk Tryz.func56 rfl rfl rfl rfl rfl (Nat.le_of_ble_eq_true rfl) ?_
  repeat' (first | ((with_reducible refine D.nil ?_); refine AX.nilL ?_) | ((with_reducible refine D.alloc ?_); refine L.al U U U ?_) | ((with_reducible refine D.store ?_); refine L.st U U U U U U U U U ?_) | ((with_reducible refine D.ax ?_); refine L.bd U U U U U ?_) | ((with_reducible refine D.aw ?_); first | refine K.sq (AW.regL ?_) | refine AW.ret ?_) | with_reducible refine K.tN ?_ | with_reducible refine K.r1 (by with_unfolding_all rfl) (by with_unfolding_all rfl) ?_)
  simp [tupV, V.wk, V.wks, constV, Ty.view, Tm.view]
theorem list_c : PC E 62 [] (.agg (Ty.mk 2 []).view) := by
  refine AC.mk Tryz.func62 rfl rfl rfl rfl rfl (Nat.le_of_ble_eq_true rfl) ?_
  repeat' (first | ((with_reducible refine D.nil ?_); refine AX.nilL ?_) | ((with_reducible refine D.alloc ?_); refine L.al U U U ?_) | ((with_reducible refine D.store ?_); refine L.st U U U U U U U U U ?_) | ((with_reducible refine D.ax ?_); refine L.bd U U U U U ?_) | ((with_reducible refine D.aw ?_); first | refine K.sq (AW.regL ?_) | refine AW.ret ?_) | with_reducible refine K.tN ?_ | with_reducible refine K.r1 (by with_unfolding_all rfl) (by with_unfolding_all rfl) ?_)
  simp [tupV, V.wk, V.wks, constV, Ty.view, Tm.view]
theorem unit_c : PC E 67 [] (.agg (Ty.mk 5 []).view) := by
  refine AC.mk Tryz.func67 rfl rfl rfl rfl rfl (Nat.le_of_ble_eq_true rfl) ?_
  repeat' (first | ((with_reducible refine D.nil ?_); refine AX.nilL ?_) | ((with_reducible refine D.alloc ?_); refine L.al U U U ?_) | ((with_reducible refine D.store ?_); refine L.st U U U U U U U U U ?_) | ((with_reducible refine D.ax ?_); refine L.bd U U U U U ?_) | ((with_reducible refine D.aw ?_); first | refine K.sq (AW.regL ?_) | refine AW.ret ?_) | with_reducible refine K.tN ?_ | with_reducible refine K.r1 (by with_unfolding_all rfl) (by with_unfolding_all rfl) ?_)
  simp [tupV, V.wk, V.wks, constV, Ty.view, Tm.view]
theorem two_c (x y : Ty) (hx : x.size < 1099511627776) (hy : y.size < 1099511627776) : PC E 68 [.agg x.view, .agg y.view] (.agg (Ty.mk 3 [x, y]).view) := by
  have h1 := copyTy_c _ x (Nat.le_refl _) hx
  have h2 := copyTy_c _ y (Nat.le_refl _) hy
  refine AC.mk Tryz.func68 rfl rfl rfl rfl rfl (Nat.le_of_ble_eq_true rfl) ?_
  repeat' (first | ((with_reducible refine D.nil ?_); first | refine AX.nilL ?_ | refine AX.nilD (by kernel_rfl) ?_) | ((with_reducible refine D.load ?_); refine L.ldb U U U U U U ?_) | ((with_reducible refine D.call ?_); first | refine L.c2 (h1) U U U U ?_ | refine L.c2 (h2) U U U U ?_) | ((with_reducible refine D.box ?_); refine L.bx U U U U ?_) | ((with_reducible refine D.alloc ?_); refine L.al U U U ?_) | ((with_reducible refine D.store ?_); refine L.st U U U U U U U U U ?_) | ((with_reducible refine D.ax ?_); first | refine L.bd U U U U U ?_ | refine L.bs2 U U U U U U U U U U U U ?_) | ((with_reducible refine D.aw ?_); first | refine K.sq (AW.regL ?_) | refine K.sq (AW.regD mixed (by kernel_rfl) ?_) | refine AW.ret ?_) | with_reducible refine K.tN ?_ | with_reducible refine K.r1 (by with_unfolding_all rfl) (by with_unfolding_all rfl) ?_)
  simp [tupV, V.wk, V.wks, constV, Ty.view, Tm.view]
theorem fun_c (x y : Ty) (hx : x.size < 1099511627776) (hy : y.size < 1099511627776) : PC E 69 [.agg x.view, .agg y.view] (.agg (Ty.mk 4 [x, y]).view) := by
  have h1 := copyTy_c _ x (Nat.le_refl _) hx
  have h2 := copyTy_c _ y (Nat.le_refl _) hy
  refine AC.mk Tryz.func69 rfl rfl rfl rfl rfl (Nat.le_of_ble_eq_true rfl) ?_
  repeat' (first | ((with_reducible refine D.nil ?_); first | refine AX.nilL ?_ | refine AX.nilD (by kernel_rfl) ?_) | ((with_reducible refine D.load ?_); refine L.ldb U U U U U U ?_) | ((with_reducible refine D.call ?_); first | refine L.c2 (h1) U U U U ?_ | refine L.c2 (h2) U U U U ?_) | ((with_reducible refine D.box ?_); refine L.bx U U U U ?_) | ((with_reducible refine D.alloc ?_); refine L.al U U U ?_) | ((with_reducible refine D.store ?_); refine L.st U U U U U U U U U ?_) | ((with_reducible refine D.ax ?_); first | refine L.bd U U U U U ?_ | refine L.bs2 U U U U U U U U U U U U ?_) | ((with_reducible refine D.aw ?_); first | refine K.sq (AW.regL ?_) | refine K.sq (AW.regD mixed (by kernel_rfl) ?_) | refine AW.ret ?_) | with_reducible refine K.tN ?_ | with_reducible refine K.r1 (by with_unfolding_all rfl) (by with_unfolding_all rfl) ?_)
  simp [tupV, V.wk, V.wks, constV, Ty.view, Tm.view]
theorem noType_c (t : Ty) : PC E 188 [.agg t.view] (.bool t.isNo) := by
  refine AC.mk Tryz.func188 rfl rfl rfl rfl rfl (Nat.le_of_ble_eq_true rfl) ?_
  repeat' (first | ((with_reducible refine D.nil ?_); refine AX.nilL ?_) | ((with_reducible refine D.load ?_); first | refine L.ldb U U U U U U ?_ | refine AX.sk U U ?_) | ((with_reducible refine D.move ?_); refine L.mv U U U ?_) | ((with_reducible refine D.fieldAddr ?_); first | refine L.fab U U U U U ?_ | refine AX.sk U U ?_ | ((fail_if_success refine AX.wt U ?_); refine AX.gs U U (fun _ => trivial) (fun h => ?_) (fun h => ?_))) | ((with_reducible refine D.assign ?_); refine L.asg U U U ?_) | ((with_reducible refine D.bin ?_); first | refine L.bn U U U U U ?_ | refine AX.sk U U ?_) | ((with_reducible refine D.call ?_); first | refine L.lnt U U U U ?_ | refine AX.sk U U ?_) | ((with_reducible refine D.box ?_); refine L.bx U U U U ?_) | ((with_reducible refine D.pick ?_); refine L.pk U U U U ?_) | ((with_reducible refine D.aw ?_); first | refine K.sq (AW.regL ?_) | refine AW.ret ?_) | with_reducible refine K.tN ?_ | with_reducible refine K.r1 (by with_unfolding_all rfl) (by with_unfolding_all rfl) ?_)
  all_goals simp_all [tupV, V.wk, V.wks, constV, Ty.isNo]
  rw [Bool.eq_iff_iff]; simp
theorem typed_c (k : Int) : PC E 187 [.i k] (.bool (typedK k)) := by
  refine AC.mk Tryz.func187 rfl rfl rfl rfl rfl (Nat.le_of_ble_eq_true rfl) ?_
  repeat' (first | ((with_reducible refine D.nil ?_); refine AX.nilL ?_) | ((with_reducible refine D.move ?_); first | refine L.mv U U U ?_ | refine AX.sk U U ?_ | ((fail_if_success refine AX.wt U ?_); refine AX.gs U U (fun _ => trivial) (fun h => ?_) (fun h => ?_))) | ((with_reducible refine D.assign ?_); refine L.asg U U U ?_) | ((with_reducible refine D.bin ?_); first | refine L.bn U U U U U ?_ | refine AX.sk U U ?_) | ((with_reducible refine D.pick ?_); refine L.pk U U U U ?_) | ((with_reducible refine D.aw ?_); first | refine K.sq (AW.regL ?_) | refine AW.ret ?_) | with_reducible refine K.tN ?_ | with_reducible refine K.r1 (by with_unfolding_all rfl) (by with_unfolding_all rfl) ?_)
  all_goals simp_all [tupV, V.wk, V.wks, constV, typedK]
theorem within_c (n : Int) : PC E 78 [.i n] (.bool (decide (0 ≤ n ∧ n ≤ 4096))) := by
  refine AC.mk Tryz.func78 rfl rfl rfl rfl rfl (Nat.le_of_ble_eq_true rfl) ?_
  repeat' (first | ((with_reducible refine D.nil ?_); refine AX.nilL ?_) | ((with_reducible refine D.move ?_); first | refine L.mv U U U ?_ | refine AX.sk U U ?_ | ((fail_if_success refine AX.wt U ?_); refine AX.gs U U (fun _ => trivial) (fun h => ?_) (fun h => ?_))) | ((with_reducible refine D.assign ?_); refine L.asg U U U ?_) | ((with_reducible refine D.bin ?_); first | refine L.bn U U U U U ?_ | refine AX.sk U U ?_) | ((with_reducible refine D.pick ?_); refine L.pk U U U U ?_) | ((with_reducible refine D.aw ?_); first | refine K.sq (AW.regL ?_) | refine AW.ret ?_) | with_reducible refine K.tN ?_ | with_reducible refine K.r1 (by with_unfolding_all rfl) (by with_unfolding_all rfl) ?_)
  all_goals simp_all [tupV, V.wk, V.wks, constV]
  omega
theorem checkTy_c (t : Ty) (ht : t.size < 1099511627776) : PC E 180 [.agg t.view] (.tup [.i t.num, .i t.err]) := by
  have h1 := typeNodes_c _ t (Nat.le_refl _) ht
  refine AC.mk Tryz.func180 rfl rfl rfl rfl rfl (Nat.le_of_ble_eq_true rfl) ?_
  repeat' (first | ((with_reducible refine D.nil ?_); refine AX.nilL ?_) | ((with_reducible refine D.load ?_); refine L.ldb U U U U U U ?_) | ((with_reducible refine D.move ?_); refine L.mv U U U ?_) | ((with_reducible refine D.assign ?_); refine L.asg U U U ?_) | ((with_reducible refine D.bin ?_); refine L.bn U U U U U ?_) | ((with_reducible refine D.call ?_); refine L.c2 (h1) U U U U ?_) | ((with_reducible refine D.extract ?_); refine L.ex U U U U ?_) | ((with_reducible refine D.box ?_); refine L.bx U U U U ?_) | ((with_reducible refine D.not ?_); refine L.nt U U U ?_) | ((with_reducible refine D.aw ?_); first | ((with_reducible refine D.sblk ?_); refine K.sq (AW.block ?_)) | refine K.sq (AW.regL ?_) | refine AW.condS U (fun h => ?_) (fun h => ?_) | refine AW.skip ?_ | refine AW.ret ?_) | with_reducible refine K.tN ?_ | with_reducible refine K.bN ?_ | with_reducible refine K.tR ?_ | with_reducible refine K.bR ?_ | with_reducible refine K.r1 (by with_unfolding_all rfl) (by with_unfolding_all rfl) ?_)
  all_goals simp_all [tupV, V.wk, V.wks, constV, Ty.num, Ty.err, Ty.nodes]
  all_goals (first | omega | (split <;> first | omega | simp_all))
theorem arity_c (k : Int) : PC E 186 [.i k] (.tup [.i ((arK k).getD 0), .bool (arK k).isSome]) := by
  refine AC.mk Tryz.func186 rfl rfl rfl rfl rfl (Nat.le_of_ble_eq_true rfl) ?_
  repeat' (first | ((with_reducible refine D.nil ?_); refine AX.nilL ?_) | ((with_reducible refine D.move ?_); first | refine L.mv U U U ?_ | refine AX.sk U U ?_ | ((fail_if_success refine AX.wt U ?_); refine AX.gs U U (fun _ => trivial) (fun h => ?_) (fun h => ?_))) | ((with_reducible refine D.assign ?_); refine L.asg U U U ?_) | ((with_reducible refine D.bin ?_); first | refine L.bn U U U U U ?_ | refine AX.sk U U ?_) | ((with_reducible refine D.pick ?_); refine L.pk U U U U ?_) | ((with_reducible refine D.aw ?_); first | refine K.sq (AW.regL ?_) | refine K.sq (K.sq ?_) | refine AW.regL ?_ | refine AW.condT U ?_ | refine AW.condS U (fun h => ?_) (fun h => ?_) | refine AW.skip ?_ | refine AW.ret ?_) | with_reducible refine K.tN ?_ | with_reducible refine K.tR ?_ | with_reducible refine K.r1 (by with_unfolding_all rfl) (by with_unfolding_all rfl) ?_)
  · have : arK k = none := by simp at h; simp only [arK]; (repeat' rw [if_neg (by omega)])
    simp [this, tupV, V.wk, V.wks, constV]
  · have : arK k = none := by simp at h; simp only [arK]; (repeat' rw [if_neg (by omega)])
    simp [this, tupV, V.wk, V.wks, constV]
  · rename_i h0
    simp at h h0
    have : k = 1 ∨ k = 2 ∨ k = 3 ∨ k = 4 ∨ k = 5 ∨ k = 6 ∨ k = 7 ∨ k = 8 ∨ k = 9 ∨ k = 10 ∨ k = 11 ∨ k = 12 ∨ k = 13 := by omega
    rcases this with rfl | rfl | rfl | rfl | rfl | rfl | rfl | rfl | rfl | rfl | rfl | rfl | rfl
    · refine L.ixa 1 rfl rfl rfl rfl rfl ?_ ?_ rfl ?_
      · decide
      · decide
      repeat' (first | ((with_reducible refine D.nil ?_); refine AX.nilL ?_) | ((with_reducible refine D.load ?_); refine L.lda U U U U U ?_) | ((with_reducible refine D.assign ?_); refine L.asg U U U ?_) | ((with_reducible refine D.aw ?_); refine AW.ret ?_) | with_reducible refine K.tN ?_ | with_reducible refine K.r1 (by with_unfolding_all rfl) (by with_unfolding_all rfl) ?_)
      rfl
    · refine L.ixa 2 rfl rfl rfl rfl rfl ?_ ?_ rfl ?_
      · decide
      · decide
      repeat' (first | ((with_reducible refine D.nil ?_); refine AX.nilL ?_) | ((with_reducible refine D.load ?_); refine L.lda U U U U U ?_) | ((with_reducible refine D.assign ?_); refine L.asg U U U ?_) | ((with_reducible refine D.aw ?_); refine AW.ret ?_) | with_reducible refine K.tN ?_ | with_reducible refine K.r1 (by with_unfolding_all rfl) (by with_unfolding_all rfl) ?_)
      rfl
    · refine L.ixa 3 rfl rfl rfl rfl rfl ?_ ?_ rfl ?_
      · decide
      · decide
      repeat' (first | ((with_reducible refine D.nil ?_); refine AX.nilL ?_) | ((with_reducible refine D.load ?_); refine L.lda U U U U U ?_) | ((with_reducible refine D.assign ?_); refine L.asg U U U ?_) | ((with_reducible refine D.aw ?_); refine AW.ret ?_) | with_reducible refine K.tN ?_ | with_reducible refine K.r1 (by with_unfolding_all rfl) (by with_unfolding_all rfl) ?_)
      rfl
    · refine L.ixa 4 rfl rfl rfl rfl rfl ?_ ?_ rfl ?_
      · decide
      · decide
      repeat' (first | ((with_reducible refine D.nil ?_); refine AX.nilL ?_) | ((with_reducible refine D.load ?_); refine L.lda U U U U U ?_) | ((with_reducible refine D.assign ?_); refine L.asg U U U ?_) | ((with_reducible refine D.aw ?_); refine AW.ret ?_) | with_reducible refine K.tN ?_ | with_reducible refine K.r1 (by with_unfolding_all rfl) (by with_unfolding_all rfl) ?_)
      rfl
    · refine L.ixa 5 rfl rfl rfl rfl rfl ?_ ?_ rfl ?_
      · decide
      · decide
      repeat' (first | ((with_reducible refine D.nil ?_); refine AX.nilL ?_) | ((with_reducible refine D.load ?_); refine L.lda U U U U U ?_) | ((with_reducible refine D.assign ?_); refine L.asg U U U ?_) | ((with_reducible refine D.aw ?_); refine AW.ret ?_) | with_reducible refine K.tN ?_ | with_reducible refine K.r1 (by with_unfolding_all rfl) (by with_unfolding_all rfl) ?_)
      rfl
    · refine L.ixa 6 rfl rfl rfl rfl rfl ?_ ?_ rfl ?_
      · decide
      · decide
      repeat' (first | ((with_reducible refine D.nil ?_); refine AX.nilL ?_) | ((with_reducible refine D.load ?_); refine L.lda U U U U U ?_) | ((with_reducible refine D.assign ?_); refine L.asg U U U ?_) | ((with_reducible refine D.aw ?_); refine AW.ret ?_) | with_reducible refine K.tN ?_ | with_reducible refine K.r1 (by with_unfolding_all rfl) (by with_unfolding_all rfl) ?_)
      rfl
    · refine L.ixa 7 rfl rfl rfl rfl rfl ?_ ?_ rfl ?_
      · decide
      · decide
      repeat' (first | ((with_reducible refine D.nil ?_); refine AX.nilL ?_) | ((with_reducible refine D.load ?_); refine L.lda U U U U U ?_) | ((with_reducible refine D.assign ?_); refine L.asg U U U ?_) | ((with_reducible refine D.aw ?_); refine AW.ret ?_) | with_reducible refine K.tN ?_ | with_reducible refine K.r1 (by with_unfolding_all rfl) (by with_unfolding_all rfl) ?_)
      rfl
    · refine L.ixa 8 rfl rfl rfl rfl rfl ?_ ?_ rfl ?_
      · decide
      · decide
      repeat' (first | ((with_reducible refine D.nil ?_); refine AX.nilL ?_) | ((with_reducible refine D.load ?_); refine L.lda U U U U U ?_) | ((with_reducible refine D.assign ?_); refine L.asg U U U ?_) | ((with_reducible refine D.aw ?_); refine AW.ret ?_) | with_reducible refine K.tN ?_ | with_reducible refine K.r1 (by with_unfolding_all rfl) (by with_unfolding_all rfl) ?_)
      rfl
    · refine L.ixa 9 rfl rfl rfl rfl rfl ?_ ?_ rfl ?_
      · decide
      · decide
      repeat' (first | ((with_reducible refine D.nil ?_); refine AX.nilL ?_) | ((with_reducible refine D.load ?_); refine L.lda U U U U U ?_) | ((with_reducible refine D.assign ?_); refine L.asg U U U ?_) | ((with_reducible refine D.aw ?_); refine AW.ret ?_) | with_reducible refine K.tN ?_ | with_reducible refine K.r1 (by with_unfolding_all rfl) (by with_unfolding_all rfl) ?_)
      rfl
    · refine L.ixa 10 rfl rfl rfl rfl rfl ?_ ?_ rfl ?_
      · decide
      · decide
      repeat' (first | ((with_reducible refine D.nil ?_); refine AX.nilL ?_) | ((with_reducible refine D.load ?_); refine L.lda U U U U U ?_) | ((with_reducible refine D.assign ?_); refine L.asg U U U ?_) | ((with_reducible refine D.aw ?_); refine AW.ret ?_) | with_reducible refine K.tN ?_ | with_reducible refine K.r1 (by with_unfolding_all rfl) (by with_unfolding_all rfl) ?_)
      rfl
    · refine L.ixa 11 rfl rfl rfl rfl rfl ?_ ?_ rfl ?_
      · decide
      · decide
      repeat' (first | ((with_reducible refine D.nil ?_); refine AX.nilL ?_) | ((with_reducible refine D.load ?_); refine L.lda U U U U U ?_) | ((with_reducible refine D.assign ?_); refine L.asg U U U ?_) | ((with_reducible refine D.aw ?_); refine AW.ret ?_) | with_reducible refine K.tN ?_ | with_reducible refine K.r1 (by with_unfolding_all rfl) (by with_unfolding_all rfl) ?_)
      rfl
    · refine L.ixa 12 rfl rfl rfl rfl rfl ?_ ?_ rfl ?_
      · decide
      · decide
      repeat' (first | ((with_reducible refine D.nil ?_); refine AX.nilL ?_) | ((with_reducible refine D.load ?_); refine L.lda U U U U U ?_) | ((with_reducible refine D.assign ?_); refine L.asg U U U ?_) | ((with_reducible refine D.aw ?_); refine AW.ret ?_) | with_reducible refine K.tN ?_ | with_reducible refine K.r1 (by with_unfolding_all rfl) (by with_unfolding_all rfl) ?_)
      rfl
    · refine L.ixa 13 rfl rfl rfl rfl rfl ?_ ?_ rfl ?_
      · decide
      · decide
      repeat' (first | ((with_reducible refine D.nil ?_); refine AX.nilL ?_) | ((with_reducible refine D.load ?_); refine L.lda U U U U U ?_) | ((with_reducible refine D.assign ?_); refine L.asg U U U ?_) | ((with_reducible refine D.aw ?_); refine AW.ret ?_) | with_reducible refine K.tN ?_ | with_reducible refine K.r1 (by with_unfolding_all rfl) (by with_unfolding_all rfl) ?_)
      rfl
end Go.Ab
namespace Go.Ab
open Go Go.Proofs
set_option maxRecDepth 100000
set_option linter.all false

theorem copyTm_c : ∀ (b : Nat) (t : Tm), t.full ≤ b → b < 1099511627776 → PC E 82 [.agg t.view] (.agg t.view) := by
  intro b
  induction b with
  | zero => intro t h; have := t.full_pos; omega
  | succ b ih =>
  intro t hsz hb
  have hsz' := Tm.full_eq t
  have hlen := lsum_len Tm.full Tm.full_pos t.args
  have hty := copyTy_c _ t.ty (Nat.le_refl _) (by omega)
  refine AC.mk Tryz.func82 rfl rfl rfl rfl rfl (Nat.le_of_ble_eq_true rfl) ?_
  repeat' (first | ((with_reducible refine D.nil ?_); refine AX.nilL ?_) | ((with_reducible refine D.load ?_); refine L.ldb U U U U U U ?_) | ((with_reducible refine D.move ?_); refine L.mv U U U ?_) | ((with_reducible refine D.fieldAddr ?_); refine L.fab U U U U U ?_) | ((with_reducible refine D.assign ?_); refine L.asg U U U ?_) | ((with_reducible refine D.call ?_); refine L.lnt U U U U ?_) | ((with_reducible refine D.box ?_); refine L.bx U U U U ?_) | ((with_reducible refine D.alloc ?_); refine L.al U U U ?_) | ((with_reducible refine D.aw ?_); first | refine K.sq (AW.regL ?_) | refine K.sq (K.sq ?_) | refine AW.regL ?_) | with_reducible refine K.tN ?_)
  refine AW.range t.args.length (fun m => True)
    (fun m => ([(1, .ptr 0 0), (2, .ptr 1 0), (3, .slice (.own 2) (.t .tm (t.args.take m))), (7, .s .tm t.args), (8, .i t.args.length), (9, .i m)], ⟨3, [(0, .var t.view), (1, .var [.i 0, .i 0, .i 0, .slice .nil (.t .ty []), .slice .nil (.t .tm [])]), (2, .row)]⟩))
    (by omega) (fun m => rfl) (fun m => rfl) U trivial (Weak.mk [some 0, some 1, none] _ _ _ U U U U (by (repeat' (first | exact trivial | refine And.intro ?_ ?_ | refine ⟨_, U, _, U, ?_⟩ | exact VLe.refl _)); done) (by (repeat' (first | exact trivial | exact Or.inl U | refine And.intro ?_ ?_ | refine ⟨_, U, _, U, _, U, ?_⟩ | exact VLe.refl _)); done)) ?_ ?_
  · intro m hm hP
    have hs2 := lsum_mem Tm.full (List.getElem_mem hm)
    repeat' (first | ((with_reducible refine D.nil ?_); refine AX.nilL ?_) | ((with_reducible refine D.load ?_); first | refine L.ldb U U U U U U ?_ | refine L.lda U U U U U ?_) | ((with_reducible refine D.move ?_); refine L.mv U U U ?_) | ((with_reducible refine D.assign ?_); refine L.asg U U U ?_) | ((with_reducible refine D.call ?_); first | refine L.apt U U U U U U (by first | exact trivial | exact ⟨rfl, trivial⟩) U U (by first | omega | (simp; omega)) ?_ | refine L.c2 (ih _ ?_ ?_) U U U U ?_) | ((with_reducible refine D.alloc ?_); refine L.al U U U ?_) | ((with_reducible refine D.store ?_); refine L.st U U U U U U U U U ?_) | ((with_reducible refine D.indexAddr ?_); refine L.ixt _ U U U U U U U (by assumption) ?_) | ((with_reducible refine D.ax ?_); refine L.bs1 U U U U U U U U ?_) | ((with_reducible refine D.aw ?_); first | refine K.sq (AW.regL ?_) | refine AW.regL ?_) | with_reducible refine K.tN ?_ | with_reducible refine K.bN ?_ | ((with_reducible show @LE.le Nat _ _ _); omega) | ((with_reducible show @LT.lt Nat _ _ _); omega))
    exact ⟨rfl, trivial, (Weak.mk [some 0, some 1, some 4] _ _ _ U U U U (by (repeat' (first | exact trivial | refine And.intro ?_ ?_ | refine ⟨_, U, _, U, ?_⟩ | exact VLe.refl _ | exact VLe.of_eq (by simp [Sto.upd, List.take_append_getElem]))); done) (by (repeat' (first | exact trivial | exact Or.inr ⟨_, U, rfl⟩ | refine And.intro ?_ ?_ | refine ⟨_, U, _, U, _, U, ?_⟩ | exact VLe.refl _)); done))⟩
  · intro hP
    repeat' (first | ((with_reducible refine D.nil ?_); refine AX.nilD (by kernel_rfl) ?_) | ((with_reducible refine D.load ?_); refine L.ldb U U U U U U ?_) | ((with_reducible refine D.move ?_); refine L.mv U U U ?_) | ((with_reducible refine D.fieldAddr ?_); refine L.fab U U U U U ?_) | ((with_reducible refine D.call ?_); refine L.c2 (hty) U U U U ?_) | ((with_reducible refine D.store ?_); refine L.st U U U U U U U U U ?_) | ((with_reducible refine D.ax ?_); refine L.bd U U U U U ?_) | ((with_reducible refine D.aw ?_); first | refine K.sq (AW.regD mixed (by kernel_rfl) ?_) | refine AW.ret ?_) | with_reducible refine K.tN ?_ | with_reducible refine K.r1 (by with_unfolding_all rfl) (by with_unfolding_all rfl) ?_)
    simp [tupV, V.wk, V.wks, constV, Ty.view, Tm.view]
theorem n_c (k : Int) (l : List Tm) (hl : (l.map Tm.full).sum < 1099511627776) : PC E 53 [.i k, .s .tm l] (.agg (Tm.mk k 0 (.mk 0 []) l).view) := by
  have hlen := lsum_len Tm.full Tm.full_pos l
  refine AC.mk Tryz.func53 rfl rfl rfl rfl rfl (Nat.le_of_ble_eq_true rfl) ?_
  repeat' (first | ((with_reducible refine D.nil ?_); refine AX.nilL ?_) | ((with_reducible refine D.move ?_); refine L.mv U U U ?_) | ((with_reducible refine D.assign ?_); refine L.asg U U U ?_) | ((with_reducible refine D.call ?_); refine L.lnt U U U U ?_) | ((with_reducible refine D.alloc ?_); refine L.al U U U ?_) | ((with_reducible refine D.aw ?_); first | refine K.sq (AW.regL ?_) | refine K.sq (K.sq ?_) | refine AW.regL ?_) | with_reducible refine K.tN ?_)
  refine AW.range l.length (fun m => True)
    (fun m => ([(0, .i k), (4, .ptr 0 0), (5, .slice (.own 1) (.t .tm (l.take m))), (8, .s .tm l), (9, .i l.length), (10, .i m)], ⟨2, [(0, .var [.i 0, .i 0, .i 0, .slice .nil (.t .ty []), .slice .nil (.t .tm [])]), (1, .row)]⟩))
    (by omega) (fun m => rfl) (fun m => rfl) U trivial (Weak.mk [some 0, none] _ _ _ U U U U (by (repeat' (first | exact trivial | refine And.intro ?_ ?_ | refine ⟨_, U, _, U, ?_⟩ | exact VLe.refl _)); done) (by (repeat' (first | exact trivial | exact Or.inl U | refine And.intro ?_ ?_ | refine ⟨_, U, _, U, _, U, ?_⟩ | exact VLe.refl _)); done)) ?_ ?_
  · intro m hm hP
    have hs2 := lsum_mem Tm.full (List.getElem_mem hm)
    repeat' (first | ((with_reducible refine D.nil ?_); refine AX.nilL ?_) | ((with_reducible refine D.load ?_); first | refine L.ldb U U U U U U ?_ | refine L.lda U U U U U ?_) | ((with_reducible refine D.move ?_); refine L.mv U U U ?_) | ((with_reducible refine D.assign ?_); refine L.asg U U U ?_) | ((with_reducible refine D.call ?_); first | refine L.apt U U U U U U (by first | exact trivial | exact ⟨rfl, trivial⟩) U U (by first | omega | (simp; omega)) ?_ | refine L.c2 (copyTm_c _ _ (Nat.le_refl _) ?_) U U U U ?_) | ((with_reducible refine D.alloc ?_); refine L.al U U U ?_) | ((with_reducible refine D.store ?_); refine L.st U U U U U U U U U ?_) | ((with_reducible refine D.indexAddr ?_); refine L.ixt _ U U U U U U U (by assumption) ?_) | ((with_reducible refine D.ax ?_); refine L.bs1 U U U U U U U U ?_) | ((with_reducible refine D.aw ?_); first | refine K.sq (AW.regL ?_) | refine AW.regL ?_) | with_reducible refine K.tN ?_ | with_reducible refine K.bN ?_ | ((with_reducible show @LT.lt Nat _ _ _); omega))
    exact ⟨rfl, trivial, (Weak.mk [some 0, some 3] _ _ _ U U U U (by (repeat' (first | exact trivial | refine And.intro ?_ ?_ | refine ⟨_, U, _, U, ?_⟩ | exact VLe.refl _ | exact VLe.of_eq (by simp [Sto.upd, List.take_append_getElem]))); done) (by (repeat' (first | exact trivial | exact Or.inr ⟨_, U, rfl⟩ | refine And.intro ?_ ?_ | refine ⟨_, U, _, U, _, U, ?_⟩ | exact VLe.refl _)); done))⟩
  · intro hP
    repeat' (first | ((with_reducible refine D.nil ?_); refine AX.nilL ?_) | ((with_reducible refine D.move ?_); refine L.mv U U U ?_) | ((with_reducible refine D.store ?_); refine L.st U U U U U U U U U ?_) | ((with_reducible refine D.ax ?_); refine L.bd U U U U U ?_) | ((with_reducible refine D.aw ?_); first | refine K.sq (AW.regL ?_) | refine AW.ret ?_) | with_reducible refine K.tN ?_ | with_reducible refine K.r1 (by with_unfolding_all rfl) (by with_unfolding_all rfl) ?_)
    simp [tupV, V.wk, V.wks, constV, Ty.view, Tm.view]
theorem t_c (k : Int) (s : Ty) (l : List Tm) (hl : (l.map Tm.full).sum < 1099511627776) (hs : s.size < 1099511627776) : PC E 55 [.i k, .agg s.view, .s .tm l] (.agg (Tm.mk k 0 s l).view) := by
  have h1 := n_c k l hl
  have h2 := copyTy_c _ s (Nat.le_refl _) hs
  refine AC.mk Tryz.func55 rfl rfl rfl rfl rfl (Nat.le_of_ble_eq_true rfl) ?_
  repeat' (first | ((with_reducible refine D.nil ?_); refine AX.nilL ?_) | ((with_reducible refine D.load ?_); refine L.ldb U U U U U U ?_) | ((with_reducible refine D.move ?_); refine L.mv U U U ?_) | ((with_reducible refine D.fieldAddr ?_); refine L.fab U U U U U ?_) | ((with_reducible refine D.call ?_); first | refine L.c2 (h1) U U U U ?_ | refine L.c2 (h2) U U U U ?_) | ((with_reducible refine D.box ?_); refine L.bx U U U U ?_) | ((with_reducible refine D.alloc ?_); refine L.al U U U ?_) | ((with_reducible refine D.store ?_); refine L.st U U U U U U U U U ?_) | ((with_reducible refine D.aw ?_); first | refine K.sq (AW.regL ?_) | refine AW.ret ?_) | with_reducible refine K.tN ?_ | with_reducible refine K.r1 (by with_unfolding_all rfl) (by with_unfolding_all rfl) ?_)
  simp [tupV, V.wk, V.wks, constV, Ty.view, Tm.view]
theorem Ty.ok_err (t : Ty) : t.ok = (t.err == 0) := by
  simp only [Ty.ok, Ty.err]
  cases t.shape
  · simp
  · by_cases h : t.size ≤ 64
    · have : ¬ t.size > 64 := by omega
      simp [h, this]
    · have : t.size > 64 := by omega
      simp [h, this]
theorem Tm.head_eq (t : Tm) : t.head = (!(!(arK t.kind).isSome) && !((t.args.length : Int) != (((arK t.kind).getD 0 : Nat) : Int)) && !decide (t.index < 0) && (!(t.index != 0) || !(t.kind != 1)) && (bif typedK t.kind then !(t.ty.err != 0) else !(!t.ty.isNo))) := by
  simp only [Tm.head, Ty.ok_err]
  cases hk : arK t.kind with
  | none => simp
  | some n =>
    have h1 : (t.args.length == n) = !((t.args.length : Int) != ((n : Nat) : Int)) := by rw [Bool.eq_iff_iff]; simp; omega
    have h2 : decide (0 ≤ t.index) = !decide (t.index < 0) := by rw [Bool.eq_iff_iff]; simp
    simp [h1, h2, bne]
theorem termNodes_c : ∀ (b : Nat) (t : Tm), t.full ≤ b → b < 1099511627776 → PC E 173 [.agg t.view] (nodesM t) := by
  intro b
  induction b with
  | zero => intro t h; have := t.full_pos; omega
  | succ b ih =>
  intro t hsz hb
  have hsz' := Tm.full_eq t
  have hszz := Tm.size_eq t
  have hle := Tm.size_le_full t
  have hlen := lsum_len Tm.full Tm.full_pos t.args
  have hsh := Tm.shape_eq t
  have h1 := arity_c t.kind
  have h2 := typed_c t.kind
  have h3 := noType_c t.ty
  have h4 := checkTy_c t.ty (by omega)
  have bad : t.shape = false → (V.tup [.i 0, .bool false]) = nodesM t := fun h => by simp [nodesM, Tm.nodes, h]
  refine AC.mk Tryz.func173 rfl rfl rfl rfl rfl (Nat.le_of_ble_eq_true rfl) ?_
  repeat' (first | ((with_reducible refine D.nil ?_); refine AX.nilL ?_) | ((with_reducible refine D.load ?_); first | refine L.ldb U U U U U U ?_ | refine AX.sk U U ?_) | ((with_reducible refine D.move ?_); first | refine L.mv U U U ?_ | refine AX.sk U U ?_) | ((with_reducible refine D.fieldAddr ?_); first | refine L.fab U U U U U ?_ | refine AX.sk U U ?_ | ((fail_if_success refine AX.wt U ?_); refine AX.gs U U (fun _ => trivial) (fun h => ?_) (fun h => ?_))) | ((with_reducible refine D.assign ?_); refine L.asg U U U ?_) | ((with_reducible refine D.bin ?_); first | refine L.bn U U U U U ?_ | refine AX.sk U U ?_) | ((with_reducible refine D.call ?_); first | refine L.lnt U U U U ?_ | refine L.c2 (h1) U U U U ?_ | refine L.c2 (h2) U U U U ?_ | refine L.c2 (h3) U U U U ?_ | refine L.c2 (h4) U U U U ?_ | refine AX.sk U U ?_) | ((with_reducible refine D.extract ?_); refine L.ex U U U U ?_) | ((with_reducible refine D.box ?_); refine L.bx U U U U ?_) | ((with_reducible refine D.not ?_); refine L.nt U U U ?_) | ((with_reducible refine D.pick ?_); first | refine L.pk U U U U ?_ | refine AX.sk U U ?_) | ((with_reducible refine D.aw ?_); first | refine K.sq (AW.regL ?_) | refine K.sq (K.sq ?_) | refine AW.regL ?_ | refine AW.condT U ?_ | refine AW.condF U ?_ | refine AW.condS U (fun h => ?_) (fun h => ?_) | refine AW.skip ?_ | refine AW.ret ?_) | with_reducible refine K.tN ?_ | with_reducible refine K.tR ?_ | with_reducible refine K.r1 (by with_unfolding_all rfl) (by with_unfolding_all rfl) ?_)
  all_goals first
    | (have hd : t.head = false := by rw [t.head_eq]; simp_all
       have : t.shape = false := by rw [hsh, hd, Bool.false_and]
       simp [Tm.nodes, this, tupV, constV, V.wk, V.wks]; done)
    | (have hd : t.head = true := by rw [t.head_eq]; simp_all
       refine AW.range t.args.length (fun m => ∀ j (hj : j < t.args.length), j < m → (t.args[j]).shape = true)
         (fun m => ([(1, .ptr 0 0), (8, .i (1 + ((t.args.take m).map Tm.size).sum)), (59, .s .tm t.args), (60, .i t.args.length), (61, .i m)], ⟨1, [(0, .var t.view)]⟩))
         (by omega) (fun m => rfl) (fun m => rfl) U (by intro j hj h; omega) (Weak.mk [some 0] _ _ _ U U U U (by (repeat' (first | exact trivial | refine And.intro ?_ ?_ | refine ⟨_, U, _, U, ?_⟩ | exact VLe.refl _)); done) (by (repeat' (first | exact trivial | refine And.intro ?_ ?_ | refine ⟨_, U, _, U, _, U, ?_⟩ | exact VLe.refl _)); done)) ?_ ?_
       · intro m hm hP
         have hs1 := lsum_take Tm.size t.args m hm
         have hs2 := lsum_mem Tm.full (List.getElem_mem hm)
         have hs3 := lsum_take_le Tm.size t.args (m + 1)
         have hs4 := Tm.nodes_le t.args[m]
         have hs5 := Tm.size_le_full t.args[m]
         repeat' (first | ((with_reducible refine D.nil ?_); refine AX.nilL ?_) | ((with_reducible refine D.load ?_); first | refine L.ldb U U U U U U ?_ | refine L.lda U U U U U ?_) | ((with_reducible refine D.move ?_); refine L.mv U U U ?_) | ((with_reducible refine D.assign ?_); refine L.asg U U U ?_) | ((with_reducible refine D.bin ?_); refine L.ad U U U U (by omega) ?_) | ((with_reducible refine D.call ?_); refine L.c2 (ih _ ?_ ?_) U U U U ?_) | ((with_reducible refine D.extract ?_); refine L.ex U U U U ?_) | ((with_reducible refine D.alloc ?_); refine L.al U U U ?_) | ((with_reducible refine D.store ?_); refine L.st U U U U U U U U U ?_) | ((with_reducible refine D.indexAddr ?_); refine L.ixt _ U U U U U U U (by assumption) ?_) | ((with_reducible refine D.not ?_); refine L.nt U U U ?_) | ((with_reducible refine D.aw ?_); first | refine K.sq (AW.regL ?_) | refine K.sq (K.sq ?_) | refine AW.regL ?_ | refine AW.condS U (fun h => ?_) (fun h => ?_) | refine AW.skip ?_ | refine AW.ret ?_) | with_reducible refine K.tN ?_ | with_reducible refine K.bN ?_ | with_reducible refine K.tR ?_ | with_reducible refine K.bR ?_ | with_reducible refine K.gR ?_ | with_reducible refine K.r1 (by with_unfolding_all rfl) (by with_unfolding_all rfl) ?_ | ((with_reducible show @LE.le Nat _ _ _); omega) | ((with_reducible show @LT.lt Nat _ _ _); omega))
         · have h1 : (t.args[m]).shape = false := by simpa using h
           have : t.shape = false := by rw [hsh, all_not Tm.shape hm h1, Bool.and_false]
           simp [Tm.nodes, this, tupV, constV, V.wk, V.wks]
         · have hh : (t.args[m]).shape = true := by simpa using h
           refine ⟨rfl, all_step (p := fun t => Tm.shape t = true) hm hP hh, ?_⟩
           have e : (1 + ((((t.args.take (m + 1)).map Tm.size).sum : Nat) : Int)) = 1 + (((t.args.take m).map Tm.size).sum : Nat) + t.args[m].nodes := by simp only [Tm.nodes, hh, hs1]; simp; omega
           simp only [e]
           exact (Weak.mk [some 0] _ _ _ U U U U (by (repeat' (first | exact trivial | refine And.intro ?_ ?_ | refine ⟨_, U, _, U, ?_⟩ | exact VLe.refl _)); done) (by (repeat' (first | exact trivial | refine And.intro ?_ ?_ | refine ⟨_, U, _, U, _, U, ?_⟩ | exact VLe.refl _)); done))
       · intro hP
         have : t.shape = true := by simp only [hsh, hd, all_of Tm.shape t.args fun j hj => hP j hj hj]; simp
         repeat' (first | ((with_reducible refine D.nil ?_); refine AX.nilL ?_) | ((with_reducible refine D.move ?_); refine L.mv U U U ?_) | ((with_reducible refine D.assign ?_); refine L.asg U U U ?_) | ((with_reducible refine D.aw ?_); first | refine K.sq (AW.regL ?_) | refine AW.ret ?_) | with_reducible refine K.tN ?_ | with_reducible refine K.r1 (by with_unfolding_all rfl) (by with_unfolding_all rfl) ?_)
         simp [Tm.nodes, this, tupV, constV, hszz, V.wk, V.wks])
theorem checkTm_c (t : Tm) (ht : t.full < 1099511627776) : PC E 139 [.agg t.view] (.tup [.i t.num, .i t.err]) := by
  have h1 := termNodes_c _ t (Nat.le_refl _) ht
  refine AC.mk Tryz.func139 rfl rfl rfl rfl rfl (Nat.le_of_ble_eq_true rfl) ?_
  repeat' (first | ((with_reducible refine D.nil ?_); refine AX.nilL ?_) | ((with_reducible refine D.load ?_); refine L.ldb U U U U U U ?_) | ((with_reducible refine D.move ?_); refine L.mv U U U ?_) | ((with_reducible refine D.assign ?_); refine L.asg U U U ?_) | ((with_reducible refine D.bin ?_); refine L.bn U U U U U ?_) | ((with_reducible refine D.call ?_); refine L.c2 (h1) U U U U ?_) | ((with_reducible refine D.extract ?_); refine L.ex U U U U ?_) | ((with_reducible refine D.box ?_); refine L.bx U U U U ?_) | ((with_reducible refine D.not ?_); refine L.nt U U U ?_) | ((with_reducible refine D.aw ?_); first | ((with_reducible refine D.sblk ?_); refine K.sq (AW.block ?_)) | refine K.sq (AW.regL ?_) | refine AW.condS U (fun h => ?_) (fun h => ?_) | refine AW.skip ?_ | refine AW.ret ?_) | with_reducible refine K.tN ?_ | with_reducible refine K.bN ?_ | with_reducible refine K.tR ?_ | with_reducible refine K.bR ?_ | with_reducible refine K.r1 (by with_unfolding_all rfl) (by with_unfolding_all rfl) ?_)
  all_goals simp_all [tupV, V.wk, V.wks, constV, Tm.num, Tm.err, Tm.nodes]
  all_goals (first | omega | (split <;> first | omega | simp_all))
theorem size_c (t : Tm) (ht : t.full < 1099511627776) : PC E 87 [.agg t.view] (.tup [.i t.num, .i t.err]) := by
  have h1 := checkTm_c t ht
  refine AC.mk Tryz.func87 rfl rfl rfl rfl rfl (Nat.le_of_ble_eq_true rfl) ?_
  repeat' (first | ((with_reducible refine D.nil ?_); refine AX.nilL ?_) | ((with_reducible refine D.load ?_); refine L.ldb U U U U U U ?_) | ((with_reducible refine D.assign ?_); refine L.asg U U U ?_) | ((with_reducible refine D.call ?_); refine L.c2 (h1) U U U U ?_) | ((with_reducible refine D.extract ?_); refine L.ex U U U U ?_) | ((with_reducible refine D.box ?_); refine L.bx U U U U ?_) | ((with_reducible refine D.aw ?_); first | refine K.sq (AW.regL ?_) | refine AW.ret ?_) | with_reducible refine K.tN ?_ | with_reducible refine K.r1 (by with_unfolding_all rfl) (by with_unfolding_all rfl) ?_)
  simp [tupV, V.wk, V.wks, constV, Ty.view, Tm.view]
theorem check_c (t : Tm) (ht : t.full < 1099511627776) : PC E 70 [.agg t.view] (.i t.err) := by
  have h1 := checkTm_c t ht
  refine AC.mk Tryz.func70 rfl rfl rfl rfl rfl (Nat.le_of_ble_eq_true rfl) ?_
  repeat' (first | ((with_reducible refine D.nil ?_); refine AX.nilL ?_) | ((with_reducible refine D.load ?_); refine L.ldb U U U U U U ?_) | ((with_reducible refine D.move ?_); refine L.mv U U U ?_) | ((with_reducible refine D.assign ?_); refine L.asg U U U ?_) | ((with_reducible refine D.call ?_); refine L.c2 (h1) U U U U ?_) | ((with_reducible refine D.extract ?_); refine L.ex U U U U ?_) | ((with_reducible refine D.box ?_); refine L.bx U U U U ?_) | ((with_reducible refine D.aw ?_); first | refine K.sq (AW.regL ?_) | refine AW.ret ?_) | with_reducible refine K.tN ?_ | with_reducible refine K.r1 (by with_unfolding_all rfl) (by with_unfolding_all rfl) ?_)
  simp [tupV, V.wk, V.wks, constV, Ty.view, Tm.view]
end Go.Ab
namespace Go.Ab
open Go Go.Proofs
set_option maxRecDepth 100000
set_option linter.all false
theorem sameTy_c : ∀ (n : Nat) (x y : Ty), x.size ≤ n → n < 1099511627776 → PC E 63 [.agg x.view, .agg y.view] (.bool (decide (x = y))) := by
  intro n
  induction n with
  | zero => intro x y h; have := x.size_pos; omega
  | succ n ih =>
  intro x y hsz hb
  have hsz' := Ty.size_eq x
  have hlen := lsum_len Ty.size Ty.size_pos x.args
  have heq := Ty.eq_iff x y
  refine AC.mk Tryz.func63 rfl rfl rfl rfl rfl (Nat.le_of_ble_eq_true rfl) ?_
  repeat' (first | ((with_reducible refine D.nil ?_); refine AX.nilL ?_) | ((with_reducible refine D.load ?_); first | refine L.ldb U U U U U U ?_ | refine AX.sk U U ?_) | ((with_reducible refine D.move ?_); refine L.mv U U U ?_) | ((with_reducible refine D.fieldAddr ?_); first | refine L.fab U U U U U ?_ | refine AX.sk U U ?_ | ((fail_if_success refine AX.wt U ?_); refine AX.gs U U (fun _ => trivial) (fun h => ?_) (fun h => ?_))) | ((with_reducible refine D.assign ?_); refine L.asg U U U ?_) | ((with_reducible refine D.bin ?_); first | refine L.bn U U U U U ?_ | refine AX.sk U U ?_) | ((with_reducible refine D.call ?_); first | refine L.lnt U U U U ?_ | refine AX.sk U U ?_) | ((with_reducible refine D.box ?_); refine L.bx U U U U ?_) | ((with_reducible refine D.pick ?_); refine L.pk U U U U ?_) | ((with_reducible refine D.aw ?_); first | refine K.sq (AW.regL ?_) | refine K.sq (K.sq ?_) | refine AW.regL ?_ | refine AW.condT U ?_ | refine AW.condS U (fun h => ?_) (fun h => ?_) | refine AW.skip ?_ | refine AW.ret ?_) | with_reducible refine K.tN ?_ | with_reducible refine K.tR ?_ | with_reducible refine K.r1 (by with_unfolding_all rfl) (by with_unfolding_all rfl) ?_)
  · have : ¬ x = y := by rw [heq]; simp_all
    simp [this, tupV, constV, V.wk, V.wks]
  · have : ¬ x = y := by rintro rfl; simp at h
    simp [this, tupV, constV, V.wk, V.wks]
  · rename_i hk
    simp at h hk
    have hl : x.args.length = y.args.length := by omega
    refine AW.range x.args.length (fun m => ∀ j (hj : j < x.args.length), j < m → x.args[j] = y.args[j]'(by omega))
      (fun m => ([(2, .ptr 0 0), (3, .ptr 1 0), (22, .i x.args.length), (23, .i m)], ⟨2, [(0, .var x.view), (1, .var y.view)]⟩))
      (by omega) (fun m => rfl) (fun m => rfl) U (by intro j hj h; omega) (Weak.mk [some 0, some 1] _ _ _ U U U U (by (repeat' (first | exact trivial | refine And.intro ?_ ?_ | refine ⟨_, U, _, U, ?_⟩ | exact VLe.refl _)); done) (by (repeat' (first | exact trivial | refine And.intro ?_ ?_ | refine ⟨_, U, _, U, _, U, ?_⟩ | exact VLe.refl _)); done)) ?_ ?_
    · intro m hm hP
      have hm' : m < y.args.length := by omega
      have hs2 := lsum_mem Ty.size (List.getElem_mem hm)
      repeat' (first | ((with_reducible refine D.nil ?_); first | refine AX.nilL ?_ | refine AX.nilD (by kernel_rfl) ?_) | ((with_reducible refine D.load ?_); first | refine L.ldb U U U U U U ?_ | refine L.lda U U U U U ?_) | ((with_reducible refine D.move ?_); refine L.mv U U U ?_) | ((with_reducible refine D.fieldAddr ?_); refine L.fab U U U U U ?_) | ((with_reducible refine D.assign ?_); refine L.asg U U U ?_) | ((with_reducible refine D.call ?_); refine L.c2 (ih _ _ ?_ ?_) U U U U ?_) | ((with_reducible refine D.indexAddr ?_); refine L.ixt _ U U U U U U U (by assumption) ?_) | ((with_reducible refine D.not ?_); refine L.nt U U U ?_) | ((with_reducible refine D.aw ?_); first | refine K.sq (AW.regL ?_) | refine K.sq (AW.regD mixed (by kernel_rfl) ?_) | refine AW.condS U (fun h => ?_) (fun h => ?_) | refine AW.skip ?_ | refine AW.ret ?_) | with_reducible refine K.tN ?_ | with_reducible refine K.bN ?_ | with_reducible refine K.tR ?_ | with_reducible refine K.bR ?_ | with_reducible refine K.gR ?_ | with_reducible refine K.r1 (by with_unfolding_all rfl) (by with_unfolding_all rfl) ?_ | ((with_reducible show @LE.le Nat _ _ _); omega) | ((with_reducible show @LT.lt Nat _ _ _); omega))
      · have : ¬ x = y := by rw [heq]; exact fun hc => list_ne hm hm' (by simpa using h) hc.2
        simp [this, tupV, constV, V.wk, V.wks]
      · exact ⟨rfl, step2 hl hm hP (by simpa using h), (Weak.mk [some 0, some 1] _ _ _ U U U U (by (repeat' (first | exact trivial | refine And.intro ?_ ?_ | refine ⟨_, U, _, U, ?_⟩ | exact VLe.refl _)); done) (by (repeat' (first | exact trivial | refine And.intro ?_ ?_ | refine ⟨_, U, _, U, _, U, ?_⟩ | exact VLe.refl _)); done))⟩
    · intro hP
      have : x = y := heq.2 ⟨hk, list_eq hl hP⟩
      repeat' (first | ((with_reducible refine D.nil ?_); refine AX.nilL ?_) | ((with_reducible refine D.assign ?_); refine L.asg U U U ?_) | ((with_reducible refine D.aw ?_); first | refine K.sq (AW.regL ?_) | refine AW.ret ?_) | with_reducible refine K.tN ?_ | with_reducible refine K.r1 (by with_unfolding_all rfl) (by with_unfolding_all rfl) ?_)
      simp [this, tupV, constV, V.wk, V.wks]
theorem sameTm_c : ∀ (n : Nat) (x y : Tm), x.full ≤ n → n < 1099511627776 → PC E 23 [.agg x.view, .agg y.view] (.bool (decide (x = y))) := by
  intro n
  induction n with
  | zero => intro x y h; have := x.full_pos; omega
  | succ n ih =>
  intro x y hsz hb
  have hsz' := Tm.full_eq x
  have hlen := lsum_len Tm.full Tm.full_pos x.args
  have heq := Tm.eq_iff x y
  have hty := sameTy_c _ x.ty y.ty (Nat.le_refl _) (by omega)
  refine AC.mk Tryz.func23 rfl rfl rfl rfl rfl (Nat.le_of_ble_eq_true rfl) ?_
  repeat' (first | ((with_reducible refine D.nil ?_); refine AX.nilL ?_) | ((with_reducible refine D.load ?_); first | refine L.ldb U U U U U U ?_ | refine AX.sk U U ?_) | ((with_reducible refine D.move ?_); refine L.mv U U U ?_) | ((with_reducible refine D.fieldAddr ?_); first | refine L.fab U U U U U ?_ | refine AX.sk U U ?_ | ((fail_if_success refine AX.wt U ?_); refine AX.gs U U (fun _ => trivial) (fun h => ?_) (fun h => ?_))) | ((with_reducible refine D.assign ?_); refine L.asg U U U ?_) | ((with_reducible refine D.bin ?_); first | refine L.bn U U U U U ?_ | refine AX.sk U U ?_) | ((with_reducible refine D.call ?_); first | refine L.lnt U U U U ?_ | refine L.c2 (hty) U U U U ?_ | refine AX.sk U U ?_) | ((with_reducible refine D.box ?_); refine L.bx U U U U ?_) | ((with_reducible refine D.not ?_); first | refine L.nt U U U ?_ | refine AX.sk U U ?_) | ((with_reducible refine D.pick ?_); refine L.pk U U U U ?_) | ((with_reducible refine D.aw ?_); first | refine K.sq (AW.regL ?_) | refine K.sq (K.sq ?_) | refine AW.regL ?_ | refine AW.condT U ?_ | refine AW.condS U (fun h => ?_) (fun h => ?_) | refine AW.skip ?_ | refine AW.ret ?_) | with_reducible refine K.tN ?_ | with_reducible refine K.tR ?_ | with_reducible refine K.r1 (by with_unfolding_all rfl) (by with_unfolding_all rfl) ?_)
  · have : ¬ x = y := by rw [heq]; simp_all
    simp [this, tupV, constV, V.wk, V.wks]
  · have : ¬ x = y := by rw [heq]; simp_all
    simp [this, tupV, constV, V.wk, V.wks]
  · have : ¬ x = y := by rw [heq]; simp_all
    simp [this, tupV, constV, V.wk, V.wks]
  · have : ¬ x = y := by rintro rfl; simp at h
    simp [this, tupV, constV, V.wk, V.wks]
  · rename_i h1 h2 h3
    simp at h h1 h2 h3
    have hl : x.args.length = y.args.length := by omega
    refine AW.range x.args.length (fun m => ∀ j (hj : j < x.args.length), j < m → x.args[j] = y.args[j]'(by omega))
      (fun m => ([(2, .ptr 0 0), (3, .ptr 1 0), (37, .i x.args.length), (38, .i m)], ⟨2, [(0, .var x.view), (1, .var y.view)]⟩))
      (by omega) (fun m => rfl) (fun m => rfl) U (by intro j hj h; omega) (Weak.mk [some 0, some 1] _ _ _ U U U U (by (repeat' (first | exact trivial | refine And.intro ?_ ?_ | refine ⟨_, U, _, U, ?_⟩ | exact VLe.refl _)); done) (by (repeat' (first | exact trivial | refine And.intro ?_ ?_ | refine ⟨_, U, _, U, _, U, ?_⟩ | exact VLe.refl _)); done)) ?_ ?_
    · intro m hm hP
      have hm' : m < y.args.length := by omega
      have hs2 := lsum_mem Tm.full (List.getElem_mem hm)
      repeat' (first | ((with_reducible refine D.nil ?_); first | refine AX.nilL ?_ | refine AX.nilD (by kernel_rfl) ?_) | ((with_reducible refine D.load ?_); first | refine L.ldb U U U U U U ?_ | refine L.lda U U U U U ?_) | ((with_reducible refine D.move ?_); refine L.mv U U U ?_) | ((with_reducible refine D.fieldAddr ?_); refine L.fab U U U U U ?_) | ((with_reducible refine D.assign ?_); refine L.asg U U U ?_) | ((with_reducible refine D.call ?_); refine L.c2 (ih _ _ ?_ ?_) U U U U ?_) | ((with_reducible refine D.indexAddr ?_); refine L.ixt _ U U U U U U U (by assumption) ?_) | ((with_reducible refine D.not ?_); refine L.nt U U U ?_) | ((with_reducible refine D.aw ?_); first | refine K.sq (AW.regL ?_) | refine K.sq (AW.regD mixed (by kernel_rfl) ?_) | refine AW.condS U (fun h => ?_) (fun h => ?_) | refine AW.skip ?_ | refine AW.ret ?_) | with_reducible refine K.tN ?_ | with_reducible refine K.bN ?_ | with_reducible refine K.tR ?_ | with_reducible refine K.bR ?_ | with_reducible refine K.gR ?_ | with_reducible refine K.r1 (by with_unfolding_all rfl) (by with_unfolding_all rfl) ?_ | ((with_reducible show @LE.le Nat _ _ _); omega) | ((with_reducible show @LT.lt Nat _ _ _); omega))
      · have : ¬ x = y := by rw [heq]; exact fun hc => list_ne hm hm' (by simpa using h) hc.2.2.2
        simp [this, tupV, constV, V.wk, V.wks]
      · exact ⟨rfl, step2 hl hm hP (by simpa using h), (Weak.mk [some 0, some 1] _ _ _ U U U U (by (repeat' (first | exact trivial | refine And.intro ?_ ?_ | refine ⟨_, U, _, U, ?_⟩ | exact VLe.refl _)); done) (by (repeat' (first | exact trivial | refine And.intro ?_ ?_ | refine ⟨_, U, _, U, _, U, ?_⟩ | exact VLe.refl _)); done))⟩
    · intro hP
      have : x = y := heq.2 ⟨h1, h2, h3, list_eq hl hP⟩
      repeat' (first | ((with_reducible refine D.nil ?_); refine AX.nilL ?_) | ((with_reducible refine D.assign ?_); refine L.asg U U U ?_) | ((with_reducible refine D.aw ?_); first | refine K.sq (AW.regL ?_) | refine AW.ret ?_) | with_reducible refine K.tN ?_ | with_reducible refine K.r1 (by with_unfolding_all rfl) (by with_unfolding_all rfl) ?_)
      simp [this, tupV, constV, V.wk, V.wks]
end Go.Ab
namespace Go.Ab
open Go Go.Proofs
set_option maxRecDepth 100000
set_option linter.all false
def nearF (b : Bool) (l : List (Int × Int)) : Bool := b && l.all fun p => decide (p.1 ≤ 536870912)
theorem nearF_append (b : Bool) (l l' : List (Int × Int)) : nearF (nearF b l) l' = nearF b (l ++ l') := by simp [nearF, Bool.and_assoc]
theorem nearF_nil (b : Bool) : nearF b [] = b := by simp [nearF]
theorem nearCb (b : Bool) (i bl : Int) : AC E 146 [.i i, .i bl, .ptr 0 0] ⟨1, [(0, .var [.bool b])]⟩ (.tup []) ⟨1, [(0, .var [.bool (nearF b [(i, bl)])])]⟩ := by
  refine AC.mk Tryz.func146 rfl rfl rfl rfl rfl (Nat.le_of_ble_eq_true rfl) ?_
  repeat' (first | ((with_reducible refine D.nil ?_); refine AX.nilL ?_) | ((with_reducible refine D.load ?_); refine L.ldb U U U U U U ?_) | ((with_reducible refine D.move ?_); first | refine L.mv U U U ?_ | refine AX.sk U U ?_ | ((fail_if_success refine AX.wt U ?_); refine AX.gs U U (fun _ => trivial) (fun h => ?_) (fun h => ?_))) | ((with_reducible refine D.bin ?_); first | refine L.bn U U U U U ?_ | refine AX.sk U U ?_) | ((with_reducible refine D.store ?_); refine L.st U U U U U U U U U ?_) | ((with_reducible refine D.pick ?_); refine L.pk U U U U ?_) | ((with_reducible refine D.aw ?_); refine AW.regL ?_))
  · (exact K.n2 [some 0] U U U U U (by (repeat' (first | exact trivial | refine And.intro ?_ ?_ | refine ⟨_, U, _, U, _, U, ?_⟩ | exact VLe.of_eq (by simp [Sto.upd, nearF, h]))); done) U (by simp [tupV, V.wk, V.wks, constV, Ty.view, Tm.view, nearF, h]))
  · (exact K.n2 [some 0] U U U U U (by (repeat' (first | exact trivial | refine And.intro ?_ ?_ | refine ⟨_, U, _, U, _, U, ?_⟩ | exact VLe.of_eq (by simp [Sto.upd, nearF, h]))); done) U (by simp [tupV, V.wk, V.wks, constV, Ty.view, Tm.view, nearF, h]))
theorem nearEach1 : ∀ (n : Nat) (t : Tm) (b : Bool) (bl : Int), t.full ≤ n → n < 1099511627776 → 0 ≤ bl → bl + n < 1099511627776 → AC E 140 [.agg t.view, .i bl, .ptr 0 0, .ptr 1 0] ⟨3, [(0, .var [.fn (.func 146) [] [.ptr 2 0]]), (1, .var [.fn (.func 140) [] [.ptr 0 0, .ptr 1 0]]), (2, .var [.bool b])]⟩ (.tup [])
    ⟨3, [(0, .var [.fn (.func 146) [] [.ptr 2 0]]), (1, .var [.fn (.func 140) [] [.ptr 0 0, .ptr 1 0]]), (2, .var [.bool (nearF b (t.vars bl))])]⟩ := by
  intro n
  induction n with
  | zero => intro t b bl h; have := t.full_pos; omega
  | succ n ih =>
  intro t b bl hsz hb hbl hbn
  have hsz' := Tm.full_eq t
  have hlen := lsum_len Tm.full Tm.full_pos t.args
  have hv := Tm.vars_eq bl t
  refine AC.mk Tryz.func140 rfl rfl rfl rfl rfl (Nat.le_of_ble_eq_true rfl) ?_
  repeat' (first | ((with_reducible refine D.nil ?_); refine AX.nilL ?_) | ((with_reducible refine D.load ?_); refine L.ldb U U U U U U ?_) | ((with_reducible refine D.move ?_); refine L.mv U U U ?_) | ((with_reducible refine D.fieldAddr ?_); refine L.fab U U U U U ?_) | ((with_reducible refine D.assign ?_); refine L.asg U U U ?_) | ((with_reducible refine D.bin ?_); first | refine L.ad U U U U (by omega) ?_ | refine L.bn U U U U U ?_) | ((with_reducible refine D.call ?_); first | refine L.lnt U U U U ?_ | (apply L.cv2 (nearCb _ _ _) [2] 0 rfl; rfl; rfl; rfl; rfl; rfl; rfl; rfl; (focus ((repeat' (first | exact trivial | refine And.intro ?_ ?_ | refine ⟨_, U, _, U, _, U, ?_⟩ | exact VLe.refl _)); done)); rfl; rfl; rfl; rfl)) | ((with_reducible refine D.box ?_); refine L.bx U U U U ?_) | ((with_reducible refine D.aw ?_); first | refine K.sq (AW.regL ?_) | refine K.sq (K.sq ?_) | refine AW.regL ?_ | refine AW.condS U (fun h => ?_) (fun h => ?_) | refine AW.skip ?_) | with_reducible refine K.tN ?_)
  all_goals
    have hup : up t.kind bl ≤ bl + 1 := by simp only [up]; split <;> omega
    have hup0 : 0 ≤ up t.kind bl := by simp only [up]; split <;> omega
    refine AW.range t.args.length (fun m => True)
      (fun m => ([(1, .i (up t.kind bl)), (3, .ptr 1 0), (22, .s .tm t.args), (23, .i t.args.length), (24, .i m)], ⟨4, [(0, .var [.fn (.func 146) [] [.ptr 2 0]]), (1, .var [.fn (.func 140) [] [.ptr 0 0, .ptr 1 0]]), (2, .var [.bool (nearF b ((if t.kind = 1 then [(t.index, bl)] else []) ++ (t.args.take m).flatMap (Tm.vars (up t.kind bl))))]), (3, .var t.view)]⟩))
      (by omega) (fun m => rfl) (fun m => rfl) rfl trivial ?_ ?_ ?_
    · simp_all only [beq_iff_eq, beq_eq_false_iff_ne, ne_eq]
      exact (Weak.mk [some 0, some 1, some 2, some 3] _ _ _ U U U U (by (repeat' (first | exact trivial | refine And.intro ?_ ?_ | refine ⟨_, U, _, U, ?_⟩ | exact VLe.refl _ | exact VLe.of_eq (by simp [Sto.upd, up, *, nearF_nil]))); done) (by (repeat' (first | exact trivial | refine And.intro ?_ ?_ | refine ⟨_, U, _, U, _, U, ?_⟩ | exact VLe.refl _ | exact VLe.of_eq (by simp [Sto.upd, up, *, nearF_nil]))); done))
    · intro m hm hP
      have hs2 := lsum_mem Tm.full (List.getElem_mem hm)
      have hc := ih t.args[m] (nearF b ((if t.kind = 1 then [(t.index, bl)] else []) ++ (t.args.take m).flatMap (Tm.vars (up t.kind bl)))) (up t.kind bl) (by omega) (by omega) hup0 (by omega)
      repeat' (first | ((with_reducible refine D.nil ?_); refine AX.nilL ?_) | ((with_reducible refine D.load ?_); first | refine L.ldb U U U U U U ?_ | refine L.lda U U U U U ?_) | ((with_reducible refine D.move ?_); refine L.mv U U U ?_) | ((with_reducible refine D.call ?_); (apply L.cv2 (hc) [0, 1, 2] 0 rfl; rfl; rfl; rfl; rfl; rfl; rfl; rfl; (focus ((repeat' (first | exact trivial | refine And.intro ?_ ?_ | refine ⟨_, U, _, U, _, U, ?_⟩ | exact VLe.refl _)); done)); rfl; rfl; rfl; rfl)) | ((with_reducible refine D.alloc ?_); refine L.al U U U ?_) | ((with_reducible refine D.store ?_); refine L.st U U U U U U U U U ?_) | ((with_reducible refine D.indexAddr ?_); refine L.ixt _ U U U U U U U (by assumption) ?_) | ((with_reducible refine D.aw ?_); first | refine K.sq (AW.regL ?_) | refine AW.regL ?_) | with_reducible refine K.tN ?_ | with_reducible refine K.bN ?_)
      refine ⟨rfl, trivial, ?_⟩
      exact (Weak.mk [some 0, some 1, some 2, some 3] _ _ _ U U U U (by (repeat' (first | exact trivial | refine And.intro ?_ ?_ | refine ⟨_, U, _, U, ?_⟩ | exact VLe.refl _)); done) (by (repeat' (first | exact trivial | refine And.intro ?_ ?_ | refine ⟨_, U, _, U, _, U, ?_⟩ | exact VLe.refl _ | exact VLe.of_eq (by simp [Sto.upd, nearF_append, flat_take _ _ _ hm]))); done))
    · intro hP
      skip
      (exact K.n2 [some 0, some 1, some 2] U U U U U (by (repeat' (first | exact trivial | refine And.intro ?_ ?_ | refine ⟨_, U, _, U, _, U, ?_⟩ | exact VLe.refl _ | exact VLe.of_eq (by simp [Sto.upd, hv]))); done) U (by simp [tupV, V.wk, V.wks, constV, Ty.view, Tm.view, hv]))
theorem nearEach (t : Tm) (b : Bool) (ht : t.full < 1099511627776) : AC E 71 [.agg t.view, .fn (.func 146) [] [.ptr 0 0]] ⟨1, [(0, .var [.bool b])]⟩ (.tup []) ⟨1, [(0, .var [.bool (nearF b (t.vars 0))])]⟩ := by
  have hc := nearEach1 _ t b 0 (Nat.le_refl _) (by omega) (by omega) (by omega)
  refine AC.mk Tryz.func71 rfl rfl rfl rfl rfl (Nat.le_of_ble_eq_true rfl) ?_
  repeat' (first | ((with_reducible refine D.nil ?_); refine AX.nilL ?_) | ((with_reducible refine D.load ?_); refine L.ldb U U U U U U ?_) | ((with_reducible refine D.call ?_); (apply L.cv2 (hc) [2, 3, 0] 0 rfl; rfl; rfl; rfl; rfl; rfl; rfl; rfl; (focus ((repeat' (first | exact trivial | refine And.intro ?_ ?_ | refine ⟨_, U, _, U, _, U, ?_⟩ | exact VLe.refl _)); done)); rfl; rfl; rfl; rfl)) | ((with_reducible refine D.box ?_); refine L.bx U U U U ?_) | ((with_reducible refine D.alloc ?_); refine L.al U U U ?_) | ((with_reducible refine D.store ?_); refine L.st U U U U U U U U U ?_) | ((with_reducible refine D.ax ?_); refine L.mf U U U U ?_) | ((with_reducible refine D.aw ?_); first | refine K.sq (AW.regL ?_) | refine AW.regL ?_) | with_reducible refine K.tN ?_)
  (exact K.n2 [some 0] U U U U U (by (repeat' (first | exact trivial | refine And.intro ?_ ?_ | refine ⟨_, U, _, U, _, U, ?_⟩ | exact VLe.refl _)); done) U (by simp [tupV, V.wk, V.wks, constV, Ty.view, Tm.view, nearF]))
theorem near_c (t : Tm) (ht : t.full < 1099511627776) : PC E 79 [.agg t.view] (.bool t.near) := by
  have hc := nearEach t true ht
  refine AC.mk Tryz.func79 rfl rfl rfl rfl rfl (Nat.le_of_ble_eq_true rfl) ?_
  repeat' (first | ((with_reducible refine D.nil ?_); refine AX.nilL ?_) | ((with_reducible refine D.load ?_); refine L.ldb U U U U U U ?_) | ((with_reducible refine D.assign ?_); refine L.asg U U U ?_) | ((with_reducible refine D.call ?_); (apply L.cb2 (hc) [1] 0 rfl; rfl; rfl; rfl; rfl; rfl; rfl; (focus ((repeat' (first | exact trivial | refine And.intro ?_ ?_ | refine ⟨_, U, _, U, _, U, ?_⟩ | exact VLe.refl _)); done)); rfl; rfl; rfl; rfl)) | ((with_reducible refine D.box ?_); refine L.bx U U U U ?_) | ((with_reducible refine D.alloc ?_); refine L.al U U U ?_) | ((with_reducible refine D.store ?_); refine L.st U U U U U U U U U ?_) | ((with_reducible refine D.ax ?_); refine L.mf U U U U ?_) | ((with_reducible refine D.aw ?_); first | refine K.sq (AW.regL ?_) | refine AW.ret ?_) | with_reducible refine K.tN ?_ | with_reducible refine K.r1 (by with_unfolding_all rfl) (by with_unfolding_all rfl) ?_)
  simp [tupV, V.wk, V.wks, nearF, Tm.near]
end Go.Ab
namespace Go.Ab
open Go Go.Proofs
set_option maxRecDepth 100000
set_option linter.all false
theorem countCb (at_ c i bl : Int) (hc : 0 ≤ c ∧ c < 1099511627776) (hi : 0 ≤ i ∧ i < 9223372036854775808) (hb : 0 ≤ bl ∧ bl < 1099511627776) : AC E 149 [.i i, .i bl, .ptr 0 0, .ptr 1 0] ⟨2, [(0, .var [.i at_]), (1, .var [.i c])]⟩ (.tup []) ⟨2, [(0, .var [.i at_]), (1, .var [.i (c + cnt at_ [(i, bl)])])]⟩ := by
  refine AC.mk Tryz.func149 rfl rfl rfl rfl rfl (Nat.le_of_ble_eq_true rfl) ?_
  repeat' (first | ((with_reducible refine D.nil ?_); refine AX.nilL ?_) | ((with_reducible refine D.load ?_); refine L.ldb U U U U U U ?_) | ((with_reducible refine D.move ?_); refine L.mv U U U ?_) | ((with_reducible refine D.bin ?_); first | refine L.ad U U U U (by omega) ?_ | refine L.sb U U U U (by omega) ?_ | refine L.bn U U U U U ?_) | ((with_reducible refine D.store ?_); refine L.st U U U U U U U U U ?_) | ((with_reducible refine D.aw ?_); first | refine K.sq (AW.regL ?_) | refine AW.regL ?_ | refine AW.condS U (fun h => ?_) (fun h => ?_) | refine AW.skip ?_) | with_reducible refine K.tN ?_)
  · have : i - bl = at_ := by simpa using h
    (exact K.n2 [some 0, some 1] U U U U U (by (repeat' (first | exact trivial | refine And.intro ?_ ?_ | refine ⟨_, U, _, U, _, U, ?_⟩ | exact VLe.refl _ | exact VLe.of_eq (by simp [Sto.upd, cnt_one, this]))); done) U (by simp [tupV, V.wk, V.wks, constV, Ty.view, Tm.view, cnt_one, this]))
  · have : ¬ i - bl = at_ := by simpa using h
    (exact K.n2 [some 0, some 1] U U U U U (by (repeat' (first | exact trivial | refine And.intro ?_ ?_ | refine ⟨_, U, _, U, _, U, ?_⟩ | exact VLe.refl _ | exact VLe.of_eq (by simp [Sto.upd, cnt_one, this]))); done) U (by simp [tupV, V.wk, V.wks, constV, Ty.view, Tm.view, cnt_one, this]))
theorem countEach1 (at_ : Int) : ∀ (n : Nat) (t : Tm) (c : Int) (bl : Int), t.full ≤ n → n < 1099511627776 → 0 ≤ bl → bl + n < 1099511627776 → 0 ≤ c → c + t.full < 1099511627776 → (∀ p ∈ t.vars bl, 0 ≤ p.1 ∧ p.1 < 9223372036854775808) → AC E 140 [.agg t.view, .i bl, .ptr 0 0, .ptr 1 0] ⟨4, [(0, .var [.fn (.func 149) [] [.ptr 2 0, .ptr 3 0]]), (1, .var [.fn (.func 140) [] [.ptr 0 0, .ptr 1 0]]), (2, .var [.i at_]), (3, .var [.i c])]⟩ (.tup [])
    ⟨4, [(0, .var [.fn (.func 149) [] [.ptr 2 0, .ptr 3 0]]), (1, .var [.fn (.func 140) [] [.ptr 0 0, .ptr 1 0]]), (2, .var [.i at_]), (3, .var [.i (c + cnt at_ (t.vars bl))])]⟩ := by
  intro n
  induction n with
  | zero => intro t b bl h; have := t.full_pos; omega
  | succ n ih =>
  intro t c bl hsz hb hbl hbn hc0 hcn hix
  have hsz' := Tm.full_eq t
  have hlen := lsum_len Tm.full Tm.full_pos t.args
  have hv := Tm.vars_eq bl t
  have hi : t.kind = 1 → 0 ≤ t.index ∧ t.index < 9223372036854775808 := fun h => by simpa using hix (t.index, bl) (by rw [hv]; simp [h])
  have hcb : t.kind = 1 → _ := fun h => countCb at_ c t.index bl (by omega) (hi h) (by omega)
  refine AC.mk Tryz.func140 rfl rfl rfl rfl rfl (Nat.le_of_ble_eq_true rfl) ?_
  repeat' (first | ((with_reducible refine D.nil ?_); refine AX.nilL ?_) | ((with_reducible refine D.load ?_); refine L.ldb U U U U U U ?_) | ((with_reducible refine D.move ?_); refine L.mv U U U ?_) | ((with_reducible refine D.fieldAddr ?_); refine L.fab U U U U U ?_) | ((with_reducible refine D.assign ?_); refine L.asg U U U ?_) | ((with_reducible refine D.bin ?_); first | refine L.ad U U U U (by omega) ?_ | refine L.bn U U U U U ?_) | ((with_reducible refine D.call ?_); first | refine L.lnt U U U U ?_ | (apply L.cv2 (hcb (by simpa using h)) [2, 3] 0 rfl; rfl; rfl; rfl; rfl; rfl; rfl; rfl; (focus ((repeat' (first | exact trivial | refine And.intro ?_ ?_ | refine ⟨_, U, _, U, _, U, ?_⟩ | exact VLe.refl _)); done)); rfl; rfl; rfl; rfl)) | ((with_reducible refine D.box ?_); refine L.bx U U U U ?_) | ((with_reducible refine D.aw ?_); first | refine K.sq (AW.regL ?_) | refine K.sq (K.sq ?_) | refine AW.regL ?_ | refine AW.condS U (fun h => ?_) (fun h => ?_) | refine AW.skip ?_) | with_reducible refine K.tN ?_)
  all_goals
    have hup : up t.kind bl ≤ bl + 1 := by simp only [up]; split <;> omega
    have hup0 : 0 ≤ up t.kind bl := by simp only [up]; split <;> omega
    refine AW.range t.args.length (fun m => True)
      (fun m => ([(1, .i (up t.kind bl)), (3, .ptr 1 0), (22, .s .tm t.args), (23, .i t.args.length), (24, .i m)], ⟨5, [(0, .var [.fn (.func 149) [] [.ptr 2 0, .ptr 3 0]]), (1, .var [.fn (.func 140) [] [.ptr 0 0, .ptr 1 0]]), (2, .var [.i at_]), (3, .var [.i (c + cnt at_ ((if t.kind = 1 then [(t.index, bl)] else []) ++ (t.args.take m).flatMap (Tm.vars (up t.kind bl))))]), (4, .var t.view)]⟩))
      (by omega) (fun m => rfl) (fun m => rfl) rfl trivial ?_ ?_ ?_
    · simp_all only [beq_iff_eq, beq_eq_false_iff_ne, ne_eq]
      exact (Weak.mk [some 0, some 1, some 2, some 3, some 4] _ _ _ U U U U (by (repeat' (first | exact trivial | refine And.intro ?_ ?_ | refine ⟨_, U, _, U, ?_⟩ | exact VLe.refl _ | exact VLe.of_eq (by simp [Sto.upd, up, *, cnt_append, cnt]))); done) (by (repeat' (first | exact trivial | refine And.intro ?_ ?_ | refine ⟨_, U, _, U, _, U, ?_⟩ | exact VLe.refl _ | exact VLe.of_eq (by simp [Sto.upd, up, *, cnt_append, cnt]))); done))
    · intro m hm hP
      have hs2 := lsum_mem Tm.full (List.getElem_mem hm)
      have hs3 : cnt at_ ((if t.kind = 1 then [(t.index, bl)] else []) ++ (t.args.take m).flatMap (Tm.vars (up t.kind bl))) + t.args[m].full ≤ 1 + (t.args.map Tm.full).sum := by
        have h1 := cnt_le at_ ((if t.kind = 1 then [(t.index, bl)] else []) ++ (t.args.take m).flatMap (Tm.vars (up t.kind bl)))
        have h2 := flatLen (t.args.take m) (Tm.vars (up t.kind bl)) fun x _ => x.vars_len _
        have h3 : ((t.args.take m).map Tm.size).sum ≤ ((t.args.take m).map Tm.full).sum := lsum_le _ (fun x _ => x.size_le_full)
        have h4 := lsum_take Tm.full t.args m hm
        have h5 := lsum_take_le Tm.full t.args (m + 1)
        have h6 : (if t.kind = 1 then [(t.index, bl)] else []).length ≤ 1 := by split <;> simp
        simp only [List.length_append] at h1
        omega
      have hix' : ∀ p ∈ (t.args[m]).vars (up t.kind bl), 0 ≤ p.1 ∧ p.1 < 9223372036854775808 := fun p hp => hix p (by rw [hv]; exact List.mem_append_right _ (List.mem_flatMap.2 ⟨_, List.getElem_mem hm, hp⟩))
      have hc := ih t.args[m] (c + cnt at_ ((if t.kind = 1 then [(t.index, bl)] else []) ++ (t.args.take m).flatMap (Tm.vars (up t.kind bl)))) (up t.kind bl) (by omega) (by omega) hup0 (by omega) (by omega) (by omega) hix'
      repeat' (first | ((with_reducible refine D.nil ?_); refine AX.nilL ?_) | ((with_reducible refine D.load ?_); first | refine L.ldb U U U U U U ?_ | refine L.lda U U U U U ?_) | ((with_reducible refine D.move ?_); refine L.mv U U U ?_) | ((with_reducible refine D.call ?_); (apply L.cv2 (hc) [0, 1, 2, 3] 0 rfl; rfl; rfl; rfl; rfl; rfl; rfl; rfl; (focus ((repeat' (first | exact trivial | refine And.intro ?_ ?_ | refine ⟨_, U, _, U, _, U, ?_⟩ | exact VLe.refl _)); done)); rfl; rfl; rfl; rfl)) | ((with_reducible refine D.alloc ?_); refine L.al U U U ?_) | ((with_reducible refine D.store ?_); refine L.st U U U U U U U U U ?_) | ((with_reducible refine D.indexAddr ?_); refine L.ixt _ U U U U U U U (by assumption) ?_) | ((with_reducible refine D.aw ?_); first | refine K.sq (AW.regL ?_) | refine AW.regL ?_) | with_reducible refine K.tN ?_ | with_reducible refine K.bN ?_)
      refine ⟨rfl, trivial, ?_⟩
      exact (Weak.mk [some 0, some 1, some 2, some 3, some 4] _ _ _ U U U U (by (repeat' (first | exact trivial | refine And.intro ?_ ?_ | refine ⟨_, U, _, U, ?_⟩ | exact VLe.refl _)); done) (by (repeat' (first | exact trivial | refine And.intro ?_ ?_ | refine ⟨_, U, _, U, _, U, ?_⟩ | exact VLe.refl _ | exact VLe.of_eq (by simp [Sto.upd, cnt_append, flat_take _ _ _ hm, Int.add_assoc]))); done))
    · intro hP
      skip
      (exact K.n2 [some 0, some 1, some 2, some 3] U U U U U (by (repeat' (first | exact trivial | refine And.intro ?_ ?_ | refine ⟨_, U, _, U, _, U, ?_⟩ | exact VLe.refl _ | exact VLe.of_eq (by simp [Sto.upd, hv]))); done) U (by simp [tupV, V.wk, V.wks, constV, Ty.view, Tm.view, hv]))
theorem countEach (t : Tm) (at_ : Int) (ht : t.full < 549755813888) (hix : ∀ p ∈ t.vars 0, 0 ≤ p.1 ∧ p.1 < 9223372036854775808) : AC E 71 [.agg t.view, .fn (.func 149) [] [.ptr 0 0, .ptr 1 0]] ⟨2, [(0, .var [.i at_]), (1, .var [.i 0])]⟩ (.tup []) ⟨2, [(0, .var [.i at_]), (1, .var [.i (cnt at_ (t.vars 0))])]⟩ := by
  have hc := countEach1 at_ _ t 0 0 (Nat.le_refl _) (by omega) (by omega) (by omega) (by omega) (by omega) hix
  refine AC.mk Tryz.func71 rfl rfl rfl rfl rfl (Nat.le_of_ble_eq_true rfl) ?_
  repeat' (first | ((with_reducible refine D.nil ?_); refine AX.nilL ?_) | ((with_reducible refine D.load ?_); refine L.ldb U U U U U U ?_) | ((with_reducible refine D.call ?_); (apply L.cv2 (hc) [3, 4, 0, 1] 0 rfl; rfl; rfl; rfl; rfl; rfl; rfl; rfl; (focus ((repeat' (first | exact trivial | refine And.intro ?_ ?_ | refine ⟨_, U, _, U, _, U, ?_⟩ | exact VLe.refl _)); done)); rfl; rfl; rfl; rfl)) | ((with_reducible refine D.box ?_); refine L.bx U U U U ?_) | ((with_reducible refine D.alloc ?_); refine L.al U U U ?_) | ((with_reducible refine D.store ?_); refine L.st U U U U U U U U U ?_) | ((with_reducible refine D.ax ?_); refine L.mf U U U U ?_) | ((with_reducible refine D.aw ?_); first | refine K.sq (AW.regL ?_) | refine AW.regL ?_) | with_reducible refine K.tN ?_)
  (exact K.n2 [some 0, some 1] U U U U U (by (repeat' (first | exact trivial | refine And.intro ?_ ?_ | refine ⟨_, U, _, U, _, U, ?_⟩ | exact VLe.refl _ | exact VLe.of_eq (by simp [Sto.upd, cnt]))); done) U (by simp [tupV, V.wk, V.wks, constV, Ty.view, Tm.view, cnt]))
theorem count_w (t : Tm) (at_ : Int) (ht : t.full < 549755813888) (hix : ∀ p ∈ t.vars 0, 0 ≤ p.1 ∧ p.1 < 9223372036854775808) : PC E 84 [.agg t.view, .i at_] (.i (cnt at_ (t.vars 0))) := by
  have hc := countEach t at_ ht hix
  refine AC.mk Tryz.func84 rfl rfl rfl rfl rfl (Nat.le_of_ble_eq_true rfl) ?_
  repeat' (first | ((with_reducible refine D.nil ?_); refine AX.nilL ?_) | ((with_reducible refine D.load ?_); refine L.ldb U U U U U U ?_) | ((with_reducible refine D.assign ?_); refine L.asg U U U ?_) | ((with_reducible refine D.call ?_); (apply L.cb2 (hc) [1, 2] 0 rfl; rfl; rfl; rfl; rfl; rfl; rfl; (focus ((repeat' (first | exact trivial | refine And.intro ?_ ?_ | refine ⟨_, U, _, U, _, U, ?_⟩ | exact VLe.refl _)); done)); rfl; rfl; rfl; rfl)) | ((with_reducible refine D.box ?_); refine L.bx U U U U ?_) | ((with_reducible refine D.alloc ?_); refine L.al U U U ?_) | ((with_reducible refine D.store ?_); refine L.st U U U U U U U U U ?_) | ((with_reducible refine D.ax ?_); refine L.mf U U U U ?_) | ((with_reducible refine D.aw ?_); first | refine K.sq (AW.regL ?_) | refine AW.ret ?_) | with_reducible refine K.tN ?_ | with_reducible refine K.r1 (by with_unfolding_all rfl) (by with_unfolding_all rfl) ?_)
  simp [tupV, V.wk, V.wks]
theorem count_c (t : Tm) (at_ : Int) (ht : t.full < 549755813888) (hix : ∀ p ∈ t.vars 0, 0 ≤ p.1 ∧ p.1 < 1099511627776) : PC E 84 [.agg t.view, .i at_] (.i (cnt at_ (t.vars 0))) :=
  count_w t at_ ht fun p hp => by have := hix p hp; omega
end Go.Ab
namespace Go.Ab
open Go Go.Proofs
set_option maxRecDepth 100000
set_option linter.all false
theorem liftCb (fr by_ i bl : Int) (hi : 0 ≤ i ∧ i < 549755813888) (hb : 0 ≤ bl ∧ bl < 1099511627776) (hy : -1099511627776 ≤ by_ ∧ by_ < 1099511627776) : AC E 148 [.i i, .i bl, .ptr 0 0, .ptr 1 0] ⟨2, [(0, .var [.i fr]), (1, .var [.i by_])]⟩ (.agg (liftG fr by_ i bl).view) ⟨2, [(0, .var [.i fr]), (1, .var [.i by_])]⟩ := by
  have hv := tvar_c
  refine AC.mk Tryz.func148 rfl rfl rfl rfl rfl (Nat.le_of_ble_eq_true rfl) ?_
  repeat' (first | ((with_reducible refine D.nil ?_); refine AX.nilL ?_) | ((with_reducible refine D.load ?_); refine L.ldb U U U U U U ?_) | ((with_reducible refine D.move ?_); refine L.mv U U U ?_) | ((with_reducible refine D.assign ?_); refine L.asg U U U ?_) | ((with_reducible refine D.bin ?_); first | refine L.ad U U U U (by omega) ?_ | refine L.sb U U U U (by omega) ?_ | refine L.bn U U U U U ?_) | ((with_reducible refine D.call ?_); refine L.c2 (hv _) U U U U ?_) | ((with_reducible refine D.alloc ?_); refine L.al U U U ?_) | ((with_reducible refine D.store ?_); refine L.st U U U U U U U U U ?_) | ((with_reducible refine D.aw ?_); first | refine K.sq (AW.regL ?_) | refine K.sq (K.sq ?_) | refine AW.regL ?_ | refine AW.condS U (fun h => ?_) (fun h => ?_) | refine AW.skip ?_ | refine AW.ret ?_) | with_reducible refine K.tN ?_)
  · have h' : fr ≤ i - bl := by simpa using h
    (exact K.n2 [some 0, some 1] U U U U U (by (repeat' (first | exact trivial | refine And.intro ?_ ?_ | refine ⟨_, U, _, U, _, U, ?_⟩ | exact VLe.refl _)); done) U (by simp [tupV, V.wk, V.wks, constV, Ty.view, Tm.view, liftG, h']))
  · have h' : ¬ fr ≤ i - bl := by simpa using h
    (exact K.n2 [some 0, some 1] U U U U U (by (repeat' (first | exact trivial | refine And.intro ?_ ?_ | refine ⟨_, U, _, U, _, U, ?_⟩ | exact VLe.refl _)); done) U (by simp [tupV, V.wk, V.wks, constV, Ty.view, Tm.view, liftG, h']))

theorem liftRe1 (fr by_ : Int) (hy : -1099511627776 ≤ by_ ∧ by_ < 1099511627776) : ∀ (n : Nat) (t : Tm) (bl : Int), t.full ≤ n → n < 549755813888 → 0 ≤ bl → bl + n < 549755813888 → (∀ p ∈ t.vars bl, 0 ≤ p.1 ∧ p.1 < 549755813888) → AC E 178 [.agg t.view, .i bl, .ptr 0 0, .ptr 1 0] ⟨4, [(0, .var [.fn (.func 148) [] [.ptr 2 0, .ptr 3 0]]), (1, .var [.fn (.func 178) [] [.ptr 0 0, .ptr 1 0]]), (2, .var [.i fr]), (3, .var [.i by_])]⟩ (.agg (t.re (liftG fr by_) bl).view) ⟨4, [(0, .var [.fn (.func 148) [] [.ptr 2 0, .ptr 3 0]]), (1, .var [.fn (.func 178) [] [.ptr 0 0, .ptr 1 0]]), (2, .var [.i fr]), (3, .var [.i by_])]⟩ := by
  intro n
  induction n with
  | zero => intro t bl h; have := t.full_pos; omega
  | succ n ih =>
  intro t bl hsz hb hbl hbn hix
  have hsz' := Tm.full_eq t
  have hlen := lsum_len Tm.full Tm.full_pos t.args
  have hv := Tm.vars_eq bl t
  have hre := Tm.re_eq (liftG fr by_) bl t
  have hi : t.kind = 1 → 0 ≤ t.index ∧ t.index < 549755813888 := fun h => by simpa using hix (t.index, bl) (by rw [hv]; simp [h])
  have hcb : t.kind = 1 → _ := fun h => liftCb fr by_ t.index bl (hi h) (by omega) hy
  have hown := ownTy_c _ t.ty (Nat.le_refl _) (by omega)
  refine AC.mk Tryz.func178 rfl rfl rfl rfl rfl (Nat.le_of_ble_eq_true rfl) ?_
  repeat' (first | ((with_reducible refine D.nil ?_); first | refine AX.nilL ?_ | refine AX.nilD (by kernel_rfl) ?_) | ((with_reducible refine D.load ?_); refine L.ldb U U U U U U ?_) | ((with_reducible refine D.move ?_); refine L.mv U U U ?_) | ((with_reducible refine D.fieldAddr ?_); refine L.fab U U U U U ?_) | ((with_reducible refine D.assign ?_); refine L.asg U U U ?_) | ((with_reducible refine D.bin ?_); first | refine L.ad U U U U (by omega) ?_ | refine L.bn U U U U U ?_) | ((with_reducible refine D.call ?_); first | refine L.lnt U U U U ?_ | (apply L.cv2 (hcb (by simpa using h)) [2, 3] 0 rfl; rfl; rfl; rfl; rfl; rfl; rfl; rfl; (focus ((repeat' (first | exact trivial | refine And.intro ?_ ?_ | refine ⟨_, U, _, U, _, U, ?_⟩ | exact VLe.refl _)); done)); rfl; rfl; rfl; rfl) | refine L.c2 (hown) U U U U ?_) | ((with_reducible refine D.box ?_); refine L.bx U U U U ?_) | ((with_reducible refine D.alloc ?_); refine L.al U U U ?_) | ((with_reducible refine D.store ?_); refine L.st U U U U U U U U U ?_) | ((with_reducible refine D.ax ?_); refine L.bd U U U U U ?_) | ((with_reducible refine D.aw ?_); first | refine K.sq (AW.regL ?_) | refine K.sq (AW.regD mixed (by kernel_rfl) ?_) | refine K.sq (K.sq ?_) | refine AW.regL ?_ | refine AW.condS U (fun h => ?_) (fun h => ?_) | refine AW.skip ?_ | refine AW.ret ?_) | with_reducible refine K.tN ?_ | with_reducible refine K.tR ?_)
  · have hk : t.kind = 1 := by simpa using h
    (exact K.n2 [some 0, some 1, some 2, some 3] U U U U U (by (repeat' (first | exact trivial | refine And.intro ?_ ?_ | refine ⟨_, U, _, U, _, U, ?_⟩ | exact VLe.refl _)); done) U (by simp [tupV, V.wk, V.wks, constV, Ty.view, Tm.view, hre, hk]))
  all_goals
    rename_i hk1
    have hup : up t.kind bl ≤ bl + 1 := by simp only [up]; split <;> omega
    have hup0 : 0 ≤ up t.kind bl := by simp only [up]; split <;> omega
    have hk1' : ¬ t.kind = 1 := by simpa using hk1
    refine AW.range t.args.length (fun m => True)
      (fun m => ([(1, .i (up t.kind bl)), (3, .ptr 1 0), (6, .ptr 5 0), (7, .ptr 6 0), (32, .s .tm t.args), (33, .i t.args.length), (34, .i m)], ⟨8, [(0, .var [.fn (.func 148) [] [.ptr 2 0, .ptr 3 0]]), (1, .var [.fn (.func 178) [] [.ptr 0 0, .ptr 1 0]]), (2, .var [.i fr]), (3, .var [.i by_]), (4, .var t.view), (5, .var [.i 0, .i 0, .i 0, .slice .nil (.t .ty []), .slice .nil (.t .tm [])]), (6, .var [.i t.kind, .i t.index, .i t.ty.kind, .s .ty t.ty.args, .slice (.own 7) (.t .tm ((t.args.take m).map (Tm.re (liftG fr by_) (up t.kind bl))))]), (7, .row)]⟩))
      (by omega) (fun m => rfl) (fun m => rfl) rfl trivial ?_ ?_ ?_
    · simp_all only [beq_iff_eq, beq_eq_false_iff_ne, ne_eq]
      exact (Weak.mk [some 0, some 1, some 2, some 3, some 4, some 5, some 6, none] _ _ _ U U U U (by (repeat' (first | exact trivial | refine And.intro ?_ ?_ | refine ⟨_, U, _, U, ?_⟩ | exact VLe.refl _ | exact VLe.of_eq (by simp [Sto.upd, up, *]))); done) (by (repeat' (first | exact trivial | exact Or.inl U | refine And.intro ?_ ?_ | refine ⟨_, U, _, U, _, U, ?_⟩ | exact VLe.refl _)); done))
    · intro m hm hP
      have hs2 := lsum_mem Tm.full (List.getElem_mem hm)
      have hix' : ∀ p ∈ (t.args[m]).vars (up t.kind bl), 0 ≤ p.1 ∧ p.1 < 549755813888 := fun p hp => hix p (by rw [hv]; exact List.mem_append_right _ (List.mem_flatMap.2 ⟨_, List.getElem_mem hm, hp⟩))
      have hc := ih t.args[m] (up t.kind bl) (by omega) (by omega) hup0 (by omega) hix'
      repeat' (first | ((with_reducible refine D.nil ?_); first | refine AX.nilL ?_ | refine AX.nilD (by kernel_rfl) ?_) | ((with_reducible refine D.load ?_); first | refine L.ldb U U U U U U ?_ | refine L.lda U U U U U ?_) | ((with_reducible refine D.move ?_); refine L.mv U U U ?_) | ((with_reducible refine D.fieldAddr ?_); refine L.fab U U U U U ?_) | ((with_reducible refine D.call ?_); first | refine L.apt U U U U U U (by first | exact trivial | exact ⟨rfl, trivial⟩) U U (by first | omega | (simp; omega)) ?_ | (apply L.cv2 (hc) [0, 1, 2, 3] 0 rfl; rfl; rfl; rfl; rfl; rfl; rfl; rfl; (focus ((repeat' (first | exact trivial | refine And.intro ?_ ?_ | refine ⟨_, U, _, U, _, U, ?_⟩ | exact VLe.refl _)); done)); rfl; rfl; rfl; rfl)) | ((with_reducible refine D.alloc ?_); refine L.al U U U ?_) | ((with_reducible refine D.store ?_); refine L.st U U U U U U U U U ?_) | ((with_reducible refine D.indexAddr ?_); refine L.ixt _ U U U U U U U (by assumption) ?_) | ((with_reducible refine D.ax ?_); refine L.bs1 U U U U U U U U ?_) | ((with_reducible refine D.aw ?_); first | refine K.sq (AW.regL ?_) | refine AW.regD mixed (by kernel_rfl) ?_) | with_reducible refine K.tN ?_ | with_reducible refine K.bN ?_)
      refine ⟨rfl, trivial, ?_⟩
      exact (Weak.mk [some 0, some 1, some 2, some 3, some 4, some 5, some 6, some 9] _ _ _ U U U U (by (repeat' (first | exact trivial | refine And.intro ?_ ?_ | refine ⟨_, U, _, U, ?_⟩ | exact VLe.refl _)); done) (by (repeat' (first | exact trivial | exact Or.inr ⟨_, U, rfl⟩ | refine And.intro ?_ ?_ | refine ⟨_, U, _, U, _, U, ?_⟩ | exact VLe.refl _ | exact VLe.of_eq (by simp [Sto.upd, map_take _ _ _ hm]))); done))
    · intro hP
      repeat' (first | ((with_reducible refine D.nil ?_); refine AX.nilL ?_) | ((with_reducible refine D.load ?_); refine L.ldb U U U U U U ?_) | ((with_reducible refine D.store ?_); refine L.st U U U U U U U U U ?_) | ((with_reducible refine D.aw ?_); first | refine K.sq (AW.regL ?_) | refine AW.ret ?_) | with_reducible refine K.tN ?_)
      (exact K.n2 [some 0, some 1, some 2, some 3] U U U U U (by (repeat' (first | exact trivial | refine And.intro ?_ ?_ | refine ⟨_, U, _, U, _, U, ?_⟩ | exact VLe.refl _)); done) U (by simp [tupV, V.wk, V.wks, constV, Ty.view, Tm.view, hre, hk1']))
theorem liftRe (fr by_ : Int) (hy : -1099511627776 ≤ by_ ∧ by_ < 1099511627776) (t : Tm) (ht : t.full < 274877906944) (hix : ∀ p ∈ t.vars 0, 0 ≤ p.1 ∧ p.1 < 549755813888) : AC E 147 [.agg t.view, .fn (.func 148) [] [.ptr 0 0, .ptr 1 0]] ⟨2, [(0, .var [.i fr]), (1, .var [.i by_])]⟩ (.agg (t.re (liftG fr by_) 0).view) ⟨2, [(0, .var [.i fr]), (1, .var [.i by_])]⟩ := by
  have hc := liftRe1 fr by_ hy _ t 0 (Nat.le_refl _) (by omega) (by omega) (by omega) hix
  refine AC.mk Tryz.func147 rfl rfl rfl rfl rfl (Nat.le_of_ble_eq_true rfl) ?_
  repeat' (first | ((with_reducible refine D.nil ?_); refine AX.nilL ?_) | ((with_reducible refine D.load ?_); refine L.ldb U U U U U U ?_) | ((with_reducible refine D.call ?_); (apply L.cv2 (hc) [3, 5, 0, 1] 0 rfl; rfl; rfl; rfl; rfl; rfl; rfl; rfl; (focus ((repeat' (first | exact trivial | refine And.intro ?_ ?_ | refine ⟨_, U, _, U, _, U, ?_⟩ | exact VLe.refl _)); done)); rfl; rfl; rfl; rfl)) | ((with_reducible refine D.box ?_); refine L.bx U U U U ?_) | ((with_reducible refine D.alloc ?_); refine L.al U U U ?_) | ((with_reducible refine D.store ?_); refine L.st U U U U U U U U U ?_) | ((with_reducible refine D.ax ?_); refine L.mf U U U U ?_) | ((with_reducible refine D.aw ?_); first | refine K.sq (AW.regL ?_) | refine AW.ret ?_) | with_reducible refine K.tN ?_)
  (exact K.n2 [some 0, some 1] U U U U U (by (repeat' (first | exact trivial | refine And.intro ?_ ?_ | refine ⟨_, U, _, U, _, U, ?_⟩ | exact VLe.refl _)); done) U (by simp [tupV, V.wk, V.wks, constV, Ty.view, Tm.view, hc]))

theorem lift_c (t : Tm) (fr by_ : Int) (hy : -1099511627776 ≤ by_ ∧ by_ < 1099511627776) (ht : t.full < 274877906944) (hix : ∀ p ∈ t.vars 0, 0 ≤ p.1 ∧ p.1 < 549755813888) : PC E 80 [.agg t.view, .i fr, .i by_] (.agg (t.re (liftG fr by_) 0).view) := by
  have hc := liftRe fr by_ hy t ht hix
  refine AC.mk Tryz.func80 rfl rfl rfl rfl rfl (Nat.le_of_ble_eq_true rfl) ?_
  repeat' (first | ((with_reducible refine D.nil ?_); refine AX.nilL ?_) | ((with_reducible refine D.load ?_); refine L.ldb U U U U U U ?_) | ((with_reducible refine D.call ?_); (apply L.cb2 (hc) [1, 2] 0 rfl; rfl; rfl; rfl; rfl; rfl; rfl; (focus ((repeat' (first | exact trivial | refine And.intro ?_ ?_ | refine ⟨_, U, _, U, _, U, ?_⟩ | exact VLe.refl _)); done)); rfl; rfl; rfl; rfl)) | ((with_reducible refine D.box ?_); refine L.bx U U U U ?_) | ((with_reducible refine D.alloc ?_); refine L.al U U U ?_) | ((with_reducible refine D.store ?_); refine L.st U U U U U U U U U ?_) | ((with_reducible refine D.ax ?_); refine L.mf U U U U ?_) | ((with_reducible refine D.aw ?_); first | refine K.sq (AW.regL ?_) | refine AW.ret ?_) | with_reducible refine K.tN ?_ | with_reducible refine K.r1 (by with_unfolding_all rfl) (by with_unfolding_all rfl) ?_)
  simp [tupV, V.wk, V.wks, constV, Ty.view, Tm.view]
theorem putCb (at_ : Int) (s : Tm) (i bl : Int) (hat : 0 ≤ at_ ∧ at_ < 549755813888) (hs : s.full < 274877906944) (hsi : ∀ p ∈ s.vars 0, 0 ≤ p.1 ∧ p.1 < 549755813888) (hi : 0 ≤ i ∧ i < 9223372036854775808) (hb : 0 ≤ bl ∧ bl < 549755813888) : AC E 150 [.i i, .i bl, .ptr 0 0, .ptr 1 0] ⟨2, [(0, .var [.i at_]), (1, .var s.view)]⟩ (.agg (putG at_ s i bl).view) ⟨2, [(0, .var [.i at_]), (1, .var s.view)]⟩ := by
  have hv := tvar_c
  have hl := lift_c s 0 (at_ + bl) (by omega) hs hsi
  refine AC.mk Tryz.func150 rfl rfl rfl rfl rfl (Nat.le_of_ble_eq_true rfl) ?_
  repeat' (first | ((with_reducible refine D.nil ?_); refine AX.nilL ?_) | ((with_reducible refine D.load ?_); refine L.ldb U U U U U U ?_) | ((with_reducible refine D.move ?_); refine L.mv U U U ?_) | ((with_reducible refine D.assign ?_); refine L.asg U U U ?_) | ((with_reducible refine D.bin ?_); first | refine L.ad U U U U (by omega) ?_ | refine L.sb U U U U (by omega) ?_ | refine L.bn U U U U U ?_) | ((with_reducible refine D.call ?_); first | refine L.c2 (hv _) U U U U ?_ | refine L.c2 (hl) U U U U ?_) | ((with_reducible refine D.alloc ?_); refine L.al U U U ?_) | ((with_reducible refine D.store ?_); refine L.st U U U U U U U U U ?_) | ((with_reducible refine D.aw ?_); first | ((with_reducible refine D.blk ?_); refine AW.block ?_) | refine K.sq (AW.regL ?_) | refine K.sq (K.sq ?_) | refine AW.regL ?_ | refine AW.condS U (fun h => ?_) (fun h => ?_) | refine AW.skip ?_ | refine AW.ret ?_) | with_reducible refine K.tN ?_ | with_reducible refine K.bN ?_ | with_reducible refine K.tR ?_ | with_reducible refine K.bR ?_)
  · have h' : i - bl = at_ := by simpa using h
    (exact K.n2 [some 0, some 1] U U U U U (by (repeat' (first | exact trivial | refine And.intro ?_ ?_ | refine ⟨_, U, _, U, _, U, ?_⟩ | exact VLe.refl _)); done) U (by simp [tupV, V.wk, V.wks, constV, Ty.view, Tm.view, putG, h']))
  · rename_i h0
    have h0' : ¬ i - bl = at_ := by simpa using h0
    have h' : at_ < i - bl := by simpa using h
    (exact K.n2 [some 0, some 1] U U U U U (by (repeat' (first | exact trivial | refine And.intro ?_ ?_ | refine ⟨_, U, _, U, _, U, ?_⟩ | exact VLe.refl _)); done) U (by simp [tupV, V.wk, V.wks, constV, Ty.view, Tm.view, putG, h', h0']))
  · rename_i h0
    have h0' : ¬ i - bl = at_ := by simpa using h0
    have h' : ¬ at_ < i - bl := by simpa using h
    (exact K.n2 [some 0, some 1] U U U U U (by (repeat' (first | exact trivial | refine And.intro ?_ ?_ | refine ⟨_, U, _, U, _, U, ?_⟩ | exact VLe.refl _)); done) U (by simp [tupV, V.wk, V.wks, constV, Ty.view, Tm.view, putG, h', h0']))

theorem putRe1 (at_ : Int) (s : Tm) (hat : 0 ≤ at_ ∧ at_ < 549755813888) (hs : s.full < 274877906944) (hsi : ∀ p ∈ s.vars 0, 0 ≤ p.1 ∧ p.1 < 549755813888) : ∀ (n : Nat) (t : Tm) (bl : Int), t.full ≤ n → n < 549755813888 → 0 ≤ bl → bl + n < 549755813888 → (∀ p ∈ t.vars bl, 0 ≤ p.1 ∧ p.1 < 9223372036854775808) → AC E 178 [.agg t.view, .i bl, .ptr 0 0, .ptr 1 0] ⟨4, [(0, .var [.fn (.func 150) [] [.ptr 2 0, .ptr 3 0]]), (1, .var [.fn (.func 178) [] [.ptr 0 0, .ptr 1 0]]), (2, .var [.i at_]), (3, .var s.view)]⟩ (.agg (t.re (putG at_ s) bl).view) ⟨4, [(0, .var [.fn (.func 150) [] [.ptr 2 0, .ptr 3 0]]), (1, .var [.fn (.func 178) [] [.ptr 0 0, .ptr 1 0]]), (2, .var [.i at_]), (3, .var s.view)]⟩ := by
  intro n
  induction n with
  | zero => intro t bl h; have := t.full_pos; omega
  | succ n ih =>
  intro t bl hsz hb hbl hbn hix
  have hsz' := Tm.full_eq t
  have hlen := lsum_len Tm.full Tm.full_pos t.args
  have hv := Tm.vars_eq bl t
  have hre := Tm.re_eq (putG at_ s) bl t
  have hi : t.kind = 1 → 0 ≤ t.index ∧ t.index < 9223372036854775808 := fun h => by simpa using hix (t.index, bl) (by rw [hv]; simp [h])
  have hcb : t.kind = 1 → _ := fun h => putCb at_ s t.index bl hat hs hsi (hi h) (by omega)
  have hown := ownTy_c _ t.ty (Nat.le_refl _) (by omega)
  refine AC.mk Tryz.func178 rfl rfl rfl rfl rfl (Nat.le_of_ble_eq_true rfl) ?_
  repeat' (first | ((with_reducible refine D.nil ?_); first | refine AX.nilL ?_ | refine AX.nilD (by kernel_rfl) ?_) | ((with_reducible refine D.load ?_); refine L.ldb U U U U U U ?_) | ((with_reducible refine D.move ?_); refine L.mv U U U ?_) | ((with_reducible refine D.fieldAddr ?_); refine L.fab U U U U U ?_) | ((with_reducible refine D.assign ?_); refine L.asg U U U ?_) | ((with_reducible refine D.bin ?_); first | refine L.ad U U U U (by omega) ?_ | refine L.bn U U U U U ?_) | ((with_reducible refine D.call ?_); first | refine L.lnt U U U U ?_ | (apply L.cv2 (hcb (by simpa using h)) [2, 3] 0 rfl; rfl; rfl; rfl; rfl; rfl; rfl; rfl; (focus ((repeat' (first | exact trivial | refine And.intro ?_ ?_ | refine ⟨_, U, _, U, _, U, ?_⟩ | exact VLe.refl _)); done)); rfl; rfl; rfl; rfl) | refine L.c2 (hown) U U U U ?_) | ((with_reducible refine D.box ?_); refine L.bx U U U U ?_) | ((with_reducible refine D.alloc ?_); refine L.al U U U ?_) | ((with_reducible refine D.store ?_); refine L.st U U U U U U U U U ?_) | ((with_reducible refine D.ax ?_); refine L.bd U U U U U ?_) | ((with_reducible refine D.aw ?_); first | refine K.sq (AW.regL ?_) | refine K.sq (AW.regD mixed (by kernel_rfl) ?_) | refine K.sq (K.sq ?_) | refine AW.regL ?_ | refine AW.condS U (fun h => ?_) (fun h => ?_) | refine AW.skip ?_ | refine AW.ret ?_) | with_reducible refine K.tN ?_ | with_reducible refine K.tR ?_)
  · have hk : t.kind = 1 := by simpa using h
    (exact K.n2 [some 0, some 1, some 2, some 3] U U U U U (by (repeat' (first | exact trivial | refine And.intro ?_ ?_ | refine ⟨_, U, _, U, _, U, ?_⟩ | exact VLe.refl _)); done) U (by simp [tupV, V.wk, V.wks, constV, Ty.view, Tm.view, hre, hk]))
  all_goals
    rename_i hk1
    have hup : up t.kind bl ≤ bl + 1 := by simp only [up]; split <;> omega
    have hup0 : 0 ≤ up t.kind bl := by simp only [up]; split <;> omega
    have hk1' : ¬ t.kind = 1 := by simpa using hk1
    refine AW.range t.args.length (fun m => True)
      (fun m => ([(1, .i (up t.kind bl)), (3, .ptr 1 0), (6, .ptr 5 0), (7, .ptr 6 0), (32, .s .tm t.args), (33, .i t.args.length), (34, .i m)], ⟨8, [(0, .var [.fn (.func 150) [] [.ptr 2 0, .ptr 3 0]]), (1, .var [.fn (.func 178) [] [.ptr 0 0, .ptr 1 0]]), (2, .var [.i at_]), (3, .var s.view), (4, .var t.view), (5, .var [.i 0, .i 0, .i 0, .slice .nil (.t .ty []), .slice .nil (.t .tm [])]), (6, .var [.i t.kind, .i t.index, .i t.ty.kind, .s .ty t.ty.args, .slice (.own 7) (.t .tm ((t.args.take m).map (Tm.re (putG at_ s) (up t.kind bl))))]), (7, .row)]⟩))
      (by omega) (fun m => rfl) (fun m => rfl) rfl trivial ?_ ?_ ?_
    · simp_all only [beq_iff_eq, beq_eq_false_iff_ne, ne_eq]
      exact (Weak.mk [some 0, some 1, some 2, some 3, some 4, some 5, some 6, none] _ _ _ U U U U (by (repeat' (first | exact trivial | refine And.intro ?_ ?_ | refine ⟨_, U, _, U, ?_⟩ | exact VLe.refl _ | exact VLe.of_eq (by simp [Sto.upd, up, *]))); done) (by (repeat' (first | exact trivial | exact Or.inl U | refine And.intro ?_ ?_ | refine ⟨_, U, _, U, _, U, ?_⟩ | exact VLe.refl _)); done))
    · intro m hm hP
      have hs2 := lsum_mem Tm.full (List.getElem_mem hm)
      have hix' : ∀ p ∈ (t.args[m]).vars (up t.kind bl), 0 ≤ p.1 ∧ p.1 < 9223372036854775808 := fun p hp => hix p (by rw [hv]; exact List.mem_append_right _ (List.mem_flatMap.2 ⟨_, List.getElem_mem hm, hp⟩))
      have hc := ih t.args[m] (up t.kind bl) (by omega) (by omega) hup0 (by omega) hix'
      repeat' (first | ((with_reducible refine D.nil ?_); first | refine AX.nilL ?_ | refine AX.nilD (by kernel_rfl) ?_) | ((with_reducible refine D.load ?_); first | refine L.ldb U U U U U U ?_ | refine L.lda U U U U U ?_) | ((with_reducible refine D.move ?_); refine L.mv U U U ?_) | ((with_reducible refine D.fieldAddr ?_); refine L.fab U U U U U ?_) | ((with_reducible refine D.call ?_); first | refine L.apt U U U U U U (by first | exact trivial | exact ⟨rfl, trivial⟩) U U (by first | omega | (simp; omega)) ?_ | (apply L.cv2 (hc) [0, 1, 2, 3] 0 rfl; rfl; rfl; rfl; rfl; rfl; rfl; rfl; (focus ((repeat' (first | exact trivial | refine And.intro ?_ ?_ | refine ⟨_, U, _, U, _, U, ?_⟩ | exact VLe.refl _)); done)); rfl; rfl; rfl; rfl)) | ((with_reducible refine D.alloc ?_); refine L.al U U U ?_) | ((with_reducible refine D.store ?_); refine L.st U U U U U U U U U ?_) | ((with_reducible refine D.indexAddr ?_); refine L.ixt _ U U U U U U U (by assumption) ?_) | ((with_reducible refine D.ax ?_); refine L.bs1 U U U U U U U U ?_) | ((with_reducible refine D.aw ?_); first | refine K.sq (AW.regL ?_) | refine AW.regD mixed (by kernel_rfl) ?_) | with_reducible refine K.tN ?_ | with_reducible refine K.bN ?_)
      refine ⟨rfl, trivial, ?_⟩
      exact (Weak.mk [some 0, some 1, some 2, some 3, some 4, some 5, some 6, some 9] _ _ _ U U U U (by (repeat' (first | exact trivial | refine And.intro ?_ ?_ | refine ⟨_, U, _, U, ?_⟩ | exact VLe.refl _)); done) (by (repeat' (first | exact trivial | exact Or.inr ⟨_, U, rfl⟩ | refine And.intro ?_ ?_ | refine ⟨_, U, _, U, _, U, ?_⟩ | exact VLe.refl _ | exact VLe.of_eq (by simp [Sto.upd, map_take _ _ _ hm]))); done))
    · intro hP
      repeat' (first | ((with_reducible refine D.nil ?_); refine AX.nilL ?_) | ((with_reducible refine D.load ?_); refine L.ldb U U U U U U ?_) | ((with_reducible refine D.store ?_); refine L.st U U U U U U U U U ?_) | ((with_reducible refine D.aw ?_); first | refine K.sq (AW.regL ?_) | refine AW.ret ?_) | with_reducible refine K.tN ?_)
      (exact K.n2 [some 0, some 1, some 2, some 3] U U U U U (by (repeat' (first | exact trivial | refine And.intro ?_ ?_ | refine ⟨_, U, _, U, _, U, ?_⟩ | exact VLe.refl _)); done) U (by simp [tupV, V.wk, V.wks, constV, Ty.view, Tm.view, hre, hk1']))
theorem putRe (at_ : Int) (s : Tm) (hat : 0 ≤ at_ ∧ at_ < 549755813888) (hs : s.full < 274877906944) (hsi : ∀ p ∈ s.vars 0, 0 ≤ p.1 ∧ p.1 < 549755813888) (t : Tm) (ht : t.full < 274877906944) (hix : ∀ p ∈ t.vars 0, 0 ≤ p.1 ∧ p.1 < 9223372036854775808) : AC E 147 [.agg t.view, .fn (.func 150) [] [.ptr 0 0, .ptr 1 0]] ⟨2, [(0, .var [.i at_]), (1, .var s.view)]⟩ (.agg (t.re (putG at_ s) 0).view) ⟨2, [(0, .var [.i at_]), (1, .var s.view)]⟩ := by
  have hc := putRe1 at_ s hat hs hsi _ t 0 (Nat.le_refl _) (by omega) (by omega) (by omega) hix
  refine AC.mk Tryz.func147 rfl rfl rfl rfl rfl (Nat.le_of_ble_eq_true rfl) ?_
  repeat' (first | ((with_reducible refine D.nil ?_); refine AX.nilL ?_) | ((with_reducible refine D.load ?_); refine L.ldb U U U U U U ?_) | ((with_reducible refine D.call ?_); (apply L.cv2 (hc) [3, 5, 0, 1] 0 rfl; rfl; rfl; rfl; rfl; rfl; rfl; rfl; (focus ((repeat' (first | exact trivial | refine And.intro ?_ ?_ | refine ⟨_, U, _, U, _, U, ?_⟩ | exact VLe.refl _)); done)); rfl; rfl; rfl; rfl)) | ((with_reducible refine D.box ?_); refine L.bx U U U U ?_) | ((with_reducible refine D.alloc ?_); refine L.al U U U ?_) | ((with_reducible refine D.store ?_); refine L.st U U U U U U U U U ?_) | ((with_reducible refine D.ax ?_); refine L.mf U U U U ?_) | ((with_reducible refine D.aw ?_); first | refine K.sq (AW.regL ?_) | refine AW.ret ?_) | with_reducible refine K.tN ?_)
  (exact K.n2 [some 0, some 1] U U U U U (by (repeat' (first | exact trivial | refine And.intro ?_ ?_ | refine ⟨_, U, _, U, _, U, ?_⟩ | exact VLe.refl _)); done) U (by simp [tupV, V.wk, V.wks, constV, Ty.view, Tm.view, hc]))

theorem put_w (t : Tm) (at_ : Int) (s : Tm) (hat : 0 ≤ at_ ∧ at_ < 549755813888) (hs : s.full < 274877906944) (hsi : ∀ p ∈ s.vars 0, 0 ≤ p.1 ∧ p.1 < 549755813888) (ht : t.full < 274877906944) (hix : ∀ p ∈ t.vars 0, 0 ≤ p.1 ∧ p.1 < 9223372036854775808) : PC E 85 [.agg t.view, .i at_, .agg s.view] (.agg (t.re (putG at_ s) 0).view) := by
  have hc := putRe at_ s hat hs hsi t ht hix
  refine AC.mk Tryz.func85 rfl rfl rfl rfl rfl (Nat.le_of_ble_eq_true rfl) ?_
  repeat' (first | ((with_reducible refine D.nil ?_); refine AX.nilL ?_) | ((with_reducible refine D.load ?_); refine L.ldb U U U U U U ?_) | ((with_reducible refine D.call ?_); (apply L.cb2 (hc) [1, 2] 0 rfl; rfl; rfl; rfl; rfl; rfl; rfl; (focus ((repeat' (first | exact trivial | refine And.intro ?_ ?_ | refine ⟨_, U, _, U, _, U, ?_⟩ | exact VLe.refl _)); done)); rfl; rfl; rfl; rfl)) | ((with_reducible refine D.box ?_); refine L.bx U U U U ?_) | ((with_reducible refine D.alloc ?_); refine L.al U U U ?_) | ((with_reducible refine D.store ?_); refine L.st U U U U U U U U U ?_) | ((with_reducible refine D.ax ?_); refine L.mf U U U U ?_) | ((with_reducible refine D.aw ?_); first | refine K.sq (AW.regL ?_) | refine AW.ret ?_) | with_reducible refine K.tN ?_ | with_reducible refine K.r1 (by with_unfolding_all rfl) (by with_unfolding_all rfl) ?_)
  simp [tupV, V.wk, V.wks, constV, Ty.view, Tm.view]
theorem put_c (t : Tm) (at_ : Int) (s : Tm) (hat : 0 ≤ at_ ∧ at_ < 549755813888) (hs : s.full < 274877906944) (hsi : ∀ p ∈ s.vars 0, 0 ≤ p.1 ∧ p.1 < 549755813888) (ht : t.full < 274877906944) (hix : ∀ p ∈ t.vars 0, 0 ≤ p.1 ∧ p.1 < 549755813888) : PC E 85 [.agg t.view, .i at_, .agg s.view] (.agg (t.re (putG at_ s) 0).view) :=
  put_w t at_ s hat hs hsi ht fun p hp => by have := hix p hp; omega
end Go.Ab
namespace Go.Ab
open Go Go.Proofs
set_option maxRecDepth 100000
set_option linter.all false
theorem mod_c (n k : Int) (hk : 0 < k ∧ k < 1099511627776) : PC E 18 [.i n, .i k] (.i (modI n k)) := by
  have hb1 := Int.tmod_lt_of_pos n hk.1
  have hb2 := tmod_lo n k hk.1
  refine AC.mk Tryz.func18 rfl rfl rfl rfl rfl (Nat.le_of_ble_eq_true rfl) ?_
  repeat' (first | ((with_reducible refine D.nil ?_); refine AX.nilL ?_) | ((with_reducible refine D.move ?_); refine L.mv U U U ?_) | ((with_reducible refine D.assign ?_); refine L.asg U U U ?_) | ((with_reducible refine D.bin ?_); first | refine L.ad U U U U (by omega) ?_ | refine L.rm U U U U (by omega) ?_) | ((with_reducible refine D.aw ?_); first | refine K.sq (AW.regL ?_) | refine AW.ret ?_) | with_reducible refine K.tN ?_ | with_reducible refine K.r1 (by with_unfolding_all rfl) (by with_unfolding_all rfl) ?_)
  rfl
theorem next_c (d : Dk) (n : Int) (hd : d.ok) (hn : n < 1099511627776) : AC E 58 [.ptr 0 0, .i n] ⟨1, [(0, .var d.cells)]⟩ (.i (d.next n).1) ⟨1, [(0, .var (d.next n).2.cells)]⟩ := by
  obtain ⟨hd1, hd2⟩ := hd
  have hm : ¬ n < 1 → ∀ x, PC E 18 [.i x, .i n] (.i (modI x n)) := fun h x => mod_c x n ⟨by omega, hn⟩
  refine AC.mk Tryz.func58 rfl rfl rfl rfl rfl (Nat.le_of_ble_eq_true rfl) ?_
  repeat' (first | ((with_reducible refine D.nil ?_); first | refine AX.nilL ?_ | refine AX.nilD (by kernel_rfl) ?_) | ((with_reducible refine D.load ?_); first | refine L.ldb U U U U U U ?_ | refine L.lda U U U U U ?_ | refine AX.sk U U ?_) | ((with_reducible refine D.move ?_); first | refine L.mv U U U ?_ | refine AX.sk U U ?_ | ((fail_if_success refine AX.wt U ?_); refine AX.gs U U (fun _ => trivial) (fun h => ?_) (fun h => ?_))) | ((with_reducible refine D.fieldAddr ?_); first | refine L.fab U U U U U ?_ | refine AX.sk U U ?_) | ((with_reducible refine D.assign ?_); refine L.asg U U U ?_) | ((with_reducible refine D.bin ?_); first | refine L.ad U U U U (by omega) ?_ | refine L.bn U U U U U ?_ | refine AX.sk U U ?_) | ((with_reducible refine D.call ?_); first | refine L.lnt U U U U ?_ | refine L.c2 (hm (by simp_all) _) U U U U ?_ | refine AX.sk U U ?_) | ((with_reducible refine D.store ?_); refine L.st U U U U U U U U U ?_) | ((with_reducible refine D.indexAddr ?_); refine L.ixt _ U U U U U U U (by (simp at *; omega)) ?_) | ((with_reducible refine D.pick ?_); refine L.pk U U U U ?_) | ((with_reducible refine D.ax ?_); first | refine L.nc U U U U ?_ | refine AX.sk U U ?_) | ((with_reducible refine D.aw ?_); first | refine K.sq (AW.regL ?_) | refine K.sq (AW.regD mixed (by kernel_rfl) ?_) | refine K.sq (K.sq ?_) | refine AW.regD mixed (by kernel_rfl) ?_ | refine AW.condT U ?_ | refine AW.condS U (fun h => ?_) (fun h => ?_) | refine AW.skip ?_ | refine AW.ret ?_) | with_reducible refine K.tN ?_ | with_reducible refine K.tR ?_)
  · have h' : n < 1 := by simpa using h
    have e : d.next n = (0, d) := dif_pos (.inl h')
    (exact K.n2 [some 0] U U U U U (by (repeat' (first | exact trivial | refine And.intro ?_ ?_ | refine ⟨_, U, _, U, _, U, ?_⟩ | exact VLe.of_eq (by simp [Sto.upd, e, Dk.cells]))); done) U (by simp [tupV, V.wk, V.wks, constV, Ty.view, Tm.view, e, Dk.cells]))
  · have h' : d.l.length ≤ d.at_ := by simp at h; omega
    have e : d.next n = (0, d) := dif_pos (.inr h')
    (exact K.n2 [some 0] U U U U U (by (repeat' (first | exact trivial | refine And.intro ?_ ?_ | refine ⟨_, U, _, U, _, U, ?_⟩ | exact VLe.of_eq (by simp [Sto.upd, e, Dk.cells]))); done) U (by simp [tupV, V.wk, V.wks, constV, Ty.view, Tm.view, e, Dk.cells]))
  · rename_i h0
    have h' : ¬ (n < 1 ∨ d.l.length ≤ d.at_) := by simp at h h0; omega
    have e : d.next n = (modI (d.l[d.at_]'(by omega)) n, ⟨d.l, d.at_ + 1⟩) := dif_neg h'
    (exact K.n2 [some 0] U U U U U (by (repeat' (first | exact trivial | refine And.intro ?_ ?_ | refine ⟨_, U, _, U, _, U, ?_⟩ | exact VLe.of_eq (by simp [Sto.upd, e, Dk.cells]))); done) U (by simp [tupV, V.wk, V.wks, constV, Ty.view, Tm.view, e, Dk.cells]))
theorem few_c (l : List Int) : PC E 7 [.s .int l] (.bool (decide (l.length ≤ 500))) := by
  refine AC.mk Tryz.func7 rfl rfl rfl rfl rfl (Nat.le_of_ble_eq_true rfl) ?_
  repeat' (first | ((with_reducible refine D.nil ?_); refine AX.nilL ?_) | ((with_reducible refine D.move ?_); refine L.mv U U U ?_) | ((with_reducible refine D.assign ?_); refine L.asg U U U ?_) | ((with_reducible refine D.bin ?_); refine L.bn U U U U U ?_) | ((with_reducible refine D.call ?_); refine L.lnt U U U U ?_) | ((with_reducible refine D.aw ?_); first | refine K.sq (AW.regL ?_) | refine AW.ret ?_) | with_reducible refine K.tN ?_ | with_reducible refine K.r1 (by with_unfolding_all rfl) (by with_unfolding_all rfl) ?_)
  simp [tupV, V.wk, V.wks]
  omega
theorem new_c (l : List Int) : AC E 9 [.s .int l] ⟨0, []⟩ (.ptr 0 0) ⟨1, [(0, .var (Dk.mk l 0).cells)]⟩ := by
  refine AC.mk Tryz.func9 rfl rfl rfl rfl rfl (Nat.le_of_ble_eq_true rfl) ?_
  repeat' (first | ((with_reducible refine D.nil ?_); refine AX.nilL ?_) | ((with_reducible refine D.move ?_); refine L.mv U U U ?_) | ((with_reducible refine D.assign ?_); refine L.asg U U U ?_) | ((with_reducible refine D.box ?_); refine L.bx U U U U ?_) | ((with_reducible refine D.ax ?_); refine L.bd U U U U U ?_) | ((with_reducible refine D.aw ?_); first | refine K.sq (AW.regL ?_) | refine AW.ret ?_) | with_reducible refine K.tN ?_)
  (exact K.n2 [some 0] U U U U U (by (repeat' (first | exact trivial | refine And.intro ?_ ?_ | refine ⟨_, U, _, U, _, U, ?_⟩ | exact VLe.refl _)); done) U (by simp [tupV, V.wk, V.wks, constV, Ty.view, Tm.view, Dk.cells]))
theorem substPut_c (t : Tm) (at_ : Int) (s : Tm) (ht : t.full < 274877906944) (hs : s.full < 274877906944) : PC E 24 [.agg t.view, .i at_, .agg s.view] (.tup [.agg (if putErr t at_ s = 0 then t.re (putG at_ s) 0 else noTm).view, .i (putErr t at_ s)]) := by
  have h1 := size_c t (by omega)
  have h2 := size_c s (by omega)
  have h3 := within_c at_
  have h4 := near_c t (by omega)
  have h5 := near_c s (by omega)
  have h6 : t.err = 0 → t.near = true → _ := fun h hn => count_c t at_ (by omega) fun p hp => by have := near_lt h hn p hp; omega
  have h7 : t.err = 0 → t.near = true → s.err = 0 → s.near = true → 0 ≤ at_ ∧ at_ ≤ 4096 → _ := fun h hn h' hn' ha => put_c t at_ s (by omega) hs (near_lt h' hn') ht (near_lt h hn)
  have hn1 := num_le t
  have hn2 := num_le s
  have hle := t.size_le_full
  have hcl := cnt_le at_ (t.vars 0)
  have hvl := t.vars_len 0
  have hm := mul_bd (cnt at_ (t.vars 0)) (s.num - 1) (by omega) (by omega)
  have hm' : -9223372036854775808 ≤ (cnt at_ (t.vars 0) : Int) * (s.num - 1) ∧ (cnt at_ (t.vars 0) : Int) * (s.num - 1) ≤ 9223372036854775807 := by omega
  refine AC.mk Tryz.func24 rfl rfl rfl rfl rfl (Nat.le_of_ble_eq_true rfl) ?_
  repeat' (first | ((with_reducible refine D.nil ?_); refine AX.nilL ?_) | ((with_reducible refine D.load ?_); first | refine L.ldb U U U U U U ?_ | refine AX.sk U U ?_ | ((fail_if_success refine AX.wt U ?_); refine AX.gs U U (fun _ => trivial) (fun h => ?_) (fun h => ?_))) | ((with_reducible refine D.move ?_); refine L.mv U U U ?_) | ((with_reducible refine D.assign ?_); refine L.asg U U U ?_) | ((with_reducible refine D.bin ?_); first | refine L.ad U U U U (by omega) ?_ | refine L.sb U U U U (by omega) ?_ | refine L.ml U U U U (by first | omega | assumption) ?_ | refine L.bn U U U U U ?_) | ((with_reducible refine D.call ?_); first | refine L.c2 (h1) U U U U ?_ | refine L.c2 (h2) U U U U ?_ | refine L.c2 (h3) U U U U ?_ | refine L.c2 (h4) U U U U ?_ | refine L.c2 (h5) U U U U ?_ | refine L.c2 (h6 (by simp_all) (by simp_all)) U U U U ?_ | refine L.c2 (h7 (by simp_all) (by simp_all) (by simp_all) (by simp_all) (by simp_all)) U U U U ?_ | refine AX.sk U U ?_) | ((with_reducible refine D.extract ?_); refine L.ex U U U U ?_) | ((with_reducible refine D.box ?_); refine L.bx U U U U ?_) | ((with_reducible refine D.alloc ?_); refine L.al U U U ?_) | ((with_reducible refine D.store ?_); refine L.st U U U U U U U U U ?_) | ((with_reducible refine D.not ?_); first | refine L.nt U U U ?_ | refine AX.sk U U ?_) | ((with_reducible refine D.pick ?_); refine L.pk U U U U ?_) | ((with_reducible refine D.ax ?_); refine L.bd U U U U U ?_) | ((with_reducible refine D.aw ?_); first | refine K.sq (AW.regL ?_) | refine K.sq (K.sq ?_) | refine AW.regL ?_ | refine AW.condT U ?_ | refine AW.condS U (fun h => ?_) (fun h => ?_) | refine AW.skip ?_ | refine AW.ret ?_) | with_reducible refine K.tN ?_ | with_reducible refine K.tR ?_ | with_reducible refine K.r1 (by with_unfolding_all rfl) (by with_unfolding_all rfl) ?_)
  all_goals first
    | (simp_all [tupV, V.wk, V.wks, constV, Ty.view, Tm.view, putErr, noTm, Tm.num]; done)
    | skip
  rename_i h0
  have h' : ¬ (0 ≤ at_ ∧ at_ ≤ 4096) := by intro hc; simp [hc] at h
  have h0' : t.err = 0 := by simpa using h0
  have e : putErr t at_ s = 1 := by simp only [putErr, h0', ne_eq, not_true_eq_false, if_false, h', not_false_eq_true, if_true]
  simp [tupV, V.wk, V.wks, constV, Ty.view, Tm.view, e, noTm]
end Go.Ab
namespace Go.Ab
open Go Go.Proofs
set_option maxRecDepth 100000
set_option linter.all false
theorem type_c : ∀ (n : Nat) (k : Int) (d : Dk), k ≤ n → n ≤ 20 → -100 ≤ k → d.ok → AC E 12 [.ptr 0 0, .i k] ⟨1, [(0, .var d.cells)]⟩ (.agg (d.type k.toNat).1.view) ⟨1, [(0, .var (d.type k.toNat).2.cells)]⟩ := by
  intro n
  induction n with
  | zero =>
    intro k d hk hn hk' hd
    have h1 := next_c d 7 hd (by omega)
    have e := Dk.type_eq k d
    refine AC.mk Tryz.func12 rfl rfl rfl rfl rfl (Nat.le_of_ble_eq_true rfl) ?_
    repeat' (first | ((with_reducible refine D.nil ?_); refine AX.nilL ?_) | ((with_reducible refine D.move ?_); refine L.mv U U U ?_) | ((with_reducible refine D.assign ?_); refine L.asg U U U ?_) | ((with_reducible refine D.bin ?_); first | refine L.sb U U U U (by omega) ?_ | refine L.bn U U U U U ?_) | ((with_reducible refine D.call ?_); first | (apply L.cb2 (h1) [0] 0 rfl; rfl; rfl; rfl; rfl; rfl; rfl; (focus ((repeat' (first | exact trivial | refine And.intro ?_ ?_ | refine ⟨_, U, _, U, _, U, ?_⟩ | exact VLe.refl _)); done)); rfl; rfl; rfl; rfl) | refine L.c2 (nat_c) U U U U ?_ | refine L.c2 (list_c) U U U U ?_ | refine L.c2 (unit_c) U U U U ?_) | ((with_reducible refine D.alloc ?_); refine L.al U U U ?_) | ((with_reducible refine D.store ?_); refine L.st U U U U U U U U U ?_) | ((with_reducible refine D.aw ?_); first | ((with_reducible refine D.blk ?_); refine AW.block ?_) | refine K.sq (AW.regL ?_) | refine K.sq (K.sq ?_) | refine AW.regL ?_ | refine AW.condT U ?_ | refine AW.condS U (fun h => ?_) (fun h => ?_) | refine AW.skip ?_ | refine AW.ret ?_) | with_reducible refine K.tN ?_ | with_reducible refine K.bN ?_ | with_reducible refine K.tR ?_ | with_reducible refine K.bR ?_)
    all_goals first
      | (exfalso; simp at *; omega)
      | (simp only [beq_iff_eq, beq_eq_false_iff_ne, ne_eq, decide_eq_true_eq, decide_eq_false_iff_not, gt_iff_lt] at *
         simp [*] at e
         (exact K.n2 [some 0] U U U U U (by (repeat' (first | exact trivial | refine And.intro ?_ ?_ | refine ⟨_, U, _, U, _, U, ?_⟩ | exact VLe.of_eq (by simp [Sto.upd, e]))); done) U (by simp [tupV, V.wk, V.wks, constV, Ty.view, Tm.view, e])))
  | succ n ih =>
    intro k d hk hn hk' hd
    have h1 := next_c d 7 hd (by omega)
    have e := Dk.type_eq k d
    have i1 : k > 0 → _ := fun h => ih (k - 1) (d.next 7).2 (by omega) (by omega) (by omega) (Dk.next_ok hd 7)
    have i2 : k > 0 → _ := fun h => ih (k - 1) ((d.next 7).2.type (k - 1).toNat).2 (by omega) (by omega) (by omega) (Dk.type_ok _ _ (Dk.next_ok hd 7))
    have i3 := two_c ((d.next 7).2.type (k - 1).toNat).1 ((((d.next 7).2.type (k - 1).toNat).2).type (k - 1).toNat).1 (Dk.type_small _ _ (by omega)) (Dk.type_small _ _ (by omega))
    have i4 := fun_c ((d.next 7).2.type (k - 1).toNat).1 ((((d.next 7).2.type (k - 1).toNat).2).type (k - 1).toNat).1 (Dk.type_small _ _ (by omega)) (Dk.type_small _ _ (by omega))
    refine AC.mk Tryz.func12 rfl rfl rfl rfl rfl (Nat.le_of_ble_eq_true rfl) ?_
    repeat' (first | ((with_reducible refine D.nil ?_); refine AX.nilL ?_) | ((with_reducible refine D.move ?_); refine L.mv U U U ?_) | ((with_reducible refine D.assign ?_); refine L.asg U U U ?_) | ((with_reducible refine D.bin ?_); first | refine L.sb U U U U (by omega) ?_ | refine L.bn U U U U U ?_) | ((with_reducible refine D.call ?_); first | (apply L.cb2 (h1) [0] 0 rfl; rfl; rfl; rfl; rfl; rfl; rfl; (focus ((repeat' (first | exact trivial | refine And.intro ?_ ?_ | refine ⟨_, U, _, U, _, U, ?_⟩ | exact VLe.refl _)); done)); rfl; rfl; rfl; rfl) | refine L.c2 (nat_c) U U U U ?_ | refine L.c2 (list_c) U U U U ?_ | refine L.c2 (unit_c) U U U U ?_ | (apply L.cb2 (i1 (by simp_all)) [0] 0 rfl; rfl; rfl; rfl; rfl; rfl; rfl; (focus ((repeat' (first | exact trivial | refine And.intro ?_ ?_ | refine ⟨_, U, _, U, _, U, ?_⟩ | exact VLe.refl _)); done)); rfl; rfl; rfl; rfl) | (apply L.cb2 (i2 (by simp_all)) [0] 0 rfl; rfl; rfl; rfl; rfl; rfl; rfl; (focus ((repeat' (first | exact trivial | refine And.intro ?_ ?_ | refine ⟨_, U, _, U, _, U, ?_⟩ | exact VLe.refl _)); done)); rfl; rfl; rfl; rfl) | refine L.c2 (i3) U U U U ?_ | refine L.c2 (i4) U U U U ?_) | ((with_reducible refine D.alloc ?_); refine L.al U U U ?_) | ((with_reducible refine D.store ?_); refine L.st U U U U U U U U U ?_) | ((with_reducible refine D.aw ?_); first | ((with_reducible refine D.blk ?_); refine AW.block ?_) | refine K.sq (AW.regL ?_) | refine K.sq (K.sq ?_) | refine AW.regL ?_ | refine AW.condT U ?_ | refine AW.condS U (fun h => ?_) (fun h => ?_) | refine AW.skip ?_ | refine AW.ret ?_) | with_reducible refine K.tN ?_ | with_reducible refine K.bN ?_ | with_reducible refine K.tR ?_ | with_reducible refine K.bR ?_)
    all_goals
      simp only [beq_iff_eq, beq_eq_false_iff_ne, ne_eq, decide_eq_true_eq, decide_eq_false_iff_not, gt_iff_lt] at *
      simp [*] at e
      (exact K.n2 [some 0] U U U U U (by (repeat' (first | exact trivial | refine And.intro ?_ ?_ | refine ⟨_, U, _, U, _, U, ?_⟩ | exact VLe.of_eq (by simp [Sto.upd, e]))); done) U (by simp [tupV, V.wk, V.wks, constV, Ty.view, Tm.view, e]))
end Go.Ab
namespace Go.Ab
open Go Go.Proofs
set_option maxRecDepth 100000
set_option linter.all false
theorem numeral_c (n : Nat) (hn : n < 100000) : PC E 172 [.i n] (.agg (numT n).view) := by
  have h1 := n_c 4 [] (by simp)
  refine AC.mk Tryz.func172 rfl rfl rfl rfl rfl (Nat.le_of_ble_eq_true rfl) ?_
  repeat' (first | ((with_reducible refine D.nil ?_); refine AX.nilL ?_) | ((with_reducible refine D.call ?_); refine L.c2 (h1) U U U U ?_) | ((with_reducible refine D.alloc ?_); refine L.al U U U ?_) | ((with_reducible refine D.store ?_); refine L.st U U U U U U U U U ?_) | ((with_reducible refine D.aw ?_); refine K.sq (AW.regL ?_)) | with_reducible refine K.tN ?_)
  refine K.sq (AW.down n (fun m => m ≤ n)
    (fun m => ([(0, .i m), (2, .ptr 0 0), (3, .ptr 1 0)], ⟨2, [(0, .var [.i 0, .i 0, .i 0, .slice .nil (.t .ty []), .slice .nil (.t .tm [])]), (1, .var (numT (n - m)).view)]⟩))
    (by omega) (fun m => rfl) rfl (Nat.le_refl _) ?_ ?_ ?_)
  · simp only [Nat.sub_self]
    exact (Weak.mk [some 0, some 1] _ _ _ U U U U (by (repeat' (first | exact trivial | refine And.intro ?_ ?_ | refine ⟨_, U, _, U, ?_⟩ | exact VLe.refl _)); done) (by (repeat' (first | exact trivial | refine And.intro ?_ ?_ | refine ⟨_, U, _, U, _, U, ?_⟩ | exact VLe.refl _)); done))
  · intro m hm hP
    have e : numT (n - m) = .mk 5 0 (.mk 0 []) [numT (n - (m + 1))] := by rw [show n - m = (n - (m + 1)) + 1 by omega]; rfl
    repeat' (first | ((with_reducible refine D.nil ?_); refine AX.nilL ?_) | ((with_reducible refine D.load ?_); refine L.ldb U U U U U U ?_) | ((with_reducible refine D.store ?_); refine L.st U U U U U U U U U ?_) | ((with_reducible refine D.ax ?_); first | refine L.bd U U U U U ?_ | refine L.bs1 U U U U U (EC.fold_of U) U U ?_) | ((with_reducible refine D.aw ?_); refine AW.regL ?_) | with_reducible refine K.bN ?_)
    refine ⟨rfl, by omega, ?_⟩
    simp only [e]
    exact (Weak.mk [some 0, some 1] _ _ _ U U U U (by (repeat' (first | exact trivial | refine And.intro ?_ ?_ | refine ⟨_, U, _, U, ?_⟩ | exact VLe.refl _)); done) (by (repeat' (first | exact trivial | refine And.intro ?_ ?_ | refine ⟨_, U, _, U, _, U, ?_⟩ | exact VLe.refl _ | exact VLe.any _ _)); done))
  · intro _
    repeat' (first | ((with_reducible refine D.nil ?_); refine AX.nilL ?_) | ((with_reducible refine D.load ?_); refine L.ldb U U U U U U ?_) | ((with_reducible refine D.store ?_); refine L.st U U U U U U U U U ?_) | ((with_reducible refine D.aw ?_); first | refine K.sq (AW.regL ?_) | refine AW.ret ?_) | with_reducible refine K.tN ?_ | with_reducible refine K.r1 (by with_unfolding_all rfl) (by with_unfolding_all rfl) ?_)
    simp [tupV, V.wk, V.wks, constV, Ty.view, Tm.view]
theorem number_c (n : Int) : PC E 135 [.i n] (.tup [.agg (if 0 ≤ n ∧ n < 4096 then numT n.toNat else noTm).view, .i (if n < 0 then 1 else if n ≥ 4096 then 4 else 0)]) := by
  have h1 : ¬ n < 0 → ¬ n ≥ 4096 → PC E 172 [.i n] _ := fun h h' => by
    have := numeral_c n.toNat (by omega)
    rw [show ((n.toNat : Nat) : Int) = n by omega] at this
    exact this
  refine AC.mk Tryz.func135 rfl rfl rfl rfl rfl (Nat.le_of_ble_eq_true rfl) ?_
  repeat' (first | ((with_reducible refine D.nil ?_); refine AX.nilL ?_) | ((with_reducible refine D.move ?_); refine L.mv U U U ?_) | ((with_reducible refine D.assign ?_); refine L.asg U U U ?_) | ((with_reducible refine D.bin ?_); refine L.bn U U U U U ?_) | ((with_reducible refine D.call ?_); refine L.c2 (h1 (by simp_all) (by simp_all)) U U U U ?_) | ((with_reducible refine D.alloc ?_); refine L.al U U U ?_) | ((with_reducible refine D.store ?_); refine L.st U U U U U U U U U ?_) | ((with_reducible refine D.ax ?_); refine L.bd U U U U U ?_) | ((with_reducible refine D.aw ?_); first | refine K.sq (AW.regL ?_) | refine K.sq (K.sq ?_) | refine AW.regL ?_ | refine AW.condS U (fun h => ?_) (fun h => ?_) | refine AW.skip ?_ | refine AW.ret ?_) | with_reducible refine K.tN ?_ | with_reducible refine K.tR ?_ | with_reducible refine K.r1 (by with_unfolding_all rfl) (by with_unfolding_all rfl) ?_)
  · have h' : n < 0 := by simpa using h
    have h2 : ¬ (0 ≤ n ∧ n < 4096) := by omega
    simp [tupV, V.wk, V.wks, constV, Ty.view, Tm.view, noTm, h', h2]
  · rename_i h0
    have h' : ¬ n < 0 := by simpa using h0
    have h'' : n ≥ 4096 := by simpa using h
    have h2 : ¬ (0 ≤ n ∧ n < 4096) := by omega
    simp [tupV, V.wk, V.wks, constV, Ty.view, Tm.view, noTm, h', h'', h2]
  · rename_i h0
    have h' : ¬ n < 0 := by simpa using h0
    have h'' : ¬ n ≥ 4096 := by simpa using h
    have h2 : 0 ≤ n ∧ n < 4096 := by omega
    simp [tupV, V.wk, V.wks, constV, Ty.view, Tm.view, noTm, h', h'', h2]
theorem longer_c (g l : List Ty) (h : g.length + l.length < 1000000) : PC E 60 [.s .ty g, .s .ty l] (.s .ty (g ++ l)) := by
  refine AC.mk Tryz.func60 rfl rfl rfl rfl rfl (Nat.le_of_ble_eq_true rfl) ?_
  repeat' (first | ((with_reducible refine D.nil ?_); refine AX.nilL ?_) | ((with_reducible refine D.move ?_); refine L.mv U U U ?_) | ((with_reducible refine D.assign ?_); refine L.asg U U U ?_) | ((with_reducible refine D.call ?_); refine L.apt U U U U U U (by first | exact trivial | exact ⟨rfl, trivial⟩) U U (by first | omega | (simp; omega)) ?_) | ((with_reducible refine D.aw ?_); first | refine K.sq (AW.regL ?_) | refine AW.ret ?_) | with_reducible refine K.tN ?_ | with_reducible refine K.r1 (by with_unfolding_all rfl) (by with_unfolding_all rfl) ?_)
  simp [tupV, V.wk, V.wks, constV, Ty.view, Tm.view]
theorem lam_c (t : Tm) (ht : t.full < 549755813888) : PC E 136 [.agg t.view] (.agg (Tm.mk 2 0 (.mk 1 []) [t]).view) := by
  have h1 := t_c 2 (.mk 1 []) [t] (by simp; omega) (by simp [Ty.size_eq])
  refine AC.mk Tryz.func136 rfl rfl rfl rfl rfl (Nat.le_of_ble_eq_true rfl) ?_
  repeat' (first | ((with_reducible refine D.nil ?_); first | refine AX.nilL ?_ | refine AX.nilD (by kernel_rfl) ?_) | ((with_reducible refine D.load ?_); refine L.ldb U U U U U U ?_) | ((with_reducible refine D.call ?_); first | refine L.c2 (nat_c) U U U U ?_ | refine L.c2 (h1) U U U U ?_) | ((with_reducible refine D.box ?_); refine L.bx U U U U ?_) | ((with_reducible refine D.alloc ?_); refine L.al U U U ?_) | ((with_reducible refine D.store ?_); refine L.st U U U U U U U U U ?_) | ((with_reducible refine D.ax ?_); refine L.bs1 U U U U U (EC.fold_of U) U U ?_) | ((with_reducible refine D.aw ?_); first | refine K.sq (AW.regL ?_) | refine K.sq (AW.regD mixed (by kernel_rfl) ?_) | refine AW.ret ?_) | with_reducible refine K.tN ?_ | with_reducible refine K.r1 (by with_unfolding_all rfl) (by with_unfolding_all rfl) ?_)
  simp [tupV, V.wk, V.wks, constV, Ty.view, Tm.view]
end Go.Ab
namespace Go.Ab
open Go Go.Proofs
set_option maxRecDepth 100000
set_option linter.all false
theorem num_c (n : Int) : PC E 61 [.i n] (.agg (numOf n).view) := by
  have h1 := number_c n
  refine AC.mk Tryz.func61 rfl rfl rfl rfl rfl (Nat.le_of_ble_eq_true rfl) ?_
  repeat' (first | ((with_reducible refine D.nil ?_); refine AX.nilL ?_) | ((with_reducible refine D.load ?_); refine L.ldb U U U U U U ?_) | ((with_reducible refine D.move ?_); refine L.mv U U U ?_) | ((with_reducible refine D.assign ?_); refine L.asg U U U ?_) | ((with_reducible refine D.call ?_); refine L.c2 (h1) U U U U ?_) | ((with_reducible refine D.extract ?_); refine L.ex U U U U ?_) | ((with_reducible refine D.alloc ?_); refine L.al U U U ?_) | ((with_reducible refine D.store ?_); refine L.st U U U U U U U U U ?_) | ((with_reducible refine D.aw ?_); first | refine K.sq (AW.regL ?_) | refine AW.ret ?_) | with_reducible refine K.tN ?_ | with_reducible refine K.r1 (by with_unfolding_all rfl) (by with_unfolding_all rfl) ?_)
  simp [tupV, V.wk, V.wks, constV, Ty.view, Tm.view, numOf]
theorem context_c (d : Dk) (hd : d.ok) : AC E 10 [.ptr 0 0] ⟨1, [(0, .var d.cells)]⟩ (.s .ty d.ctx.1) ⟨1, [(0, .var d.ctx.2.cells)]⟩ := by
  have h1 := next_c d 4 hd (by omega)
  have hb := Dk.next_bd d 4 (by omega)
  obtain ⟨c, hc⟩ : ∃ c : Nat, (d.next 4).1 = c := ⟨(d.next 4).1.toNat, by omega⟩
  rw [hc] at h1 hb
  have hx : d.ctx = (d.next 4).2.types c := by simp only [Dk.ctx, hc]; rfl
  refine AC.mk Tryz.func10 rfl rfl rfl rfl rfl (Nat.le_of_ble_eq_true rfl) ?_
  repeat' (first | ((with_reducible refine D.nil ?_); refine AX.nilL ?_) | ((with_reducible refine D.move ?_); refine L.mv U U U ?_) | ((with_reducible refine D.assign ?_); refine L.asg U U U ?_) | ((with_reducible refine D.call ?_); (apply L.cb2 (h1) [0] 0 rfl; rfl; rfl; rfl; rfl; rfl; rfl; (focus ((repeat' (first | exact trivial | refine And.intro ?_ ?_ | refine ⟨_, U, _, U, _, U, ?_⟩ | exact VLe.refl _)); done)); rfl; rfl; rfl; rfl)) | ((with_reducible refine D.aw ?_); first | refine K.sq (AW.regL ?_) | refine K.sq (K.sq ?_) | refine AW.regL ?_) | with_reducible refine K.tN ?_)
  refine AW.down c (fun m => m ≤ c)
    (fun m => ([(0, .ptr 0 0), (3, .slice (.own 1) (.t .ty ((d.next 4).2.types (c - m)).1)), (4, .i m)], ⟨2, [(0, .var ((d.next 4).2.types (c - m)).2.cells), (1, .row)]⟩))
    (by omega) (fun m => rfl) rfl (Nat.le_refl _) ?_ ?_ ?_
  · simp only [Nat.sub_self]
    exact (Weak.mk [some 0, none] _ _ _ U U U U (by (repeat' (first | exact trivial | refine And.intro ?_ ?_ | refine ⟨_, U, _, U, ?_⟩ | exact VLe.refl _)); done) (by (repeat' (first | exact trivial | exact Or.inl U | refine And.intro ?_ ?_ | refine ⟨_, U, _, U, _, U, ?_⟩ | exact VLe.refl _)); done))
  · intro m hm hP
    have e := Dk.types_snoc (c - (m + 1)) (d.next 4).2
    rw [show c - (m + 1) + 1 = c - m by omega] at e
    have h2 := type_c 1 1 ((d.next 4).2.types (c - (m + 1))).2 (by omega) (by omega) (by omega) (Dk.types_ok _ _ (Dk.next_ok hd 4))
    have hl := Dk.types_len (c - (m + 1)) (d.next 4).2
    repeat' (first | ((with_reducible refine D.nil ?_); refine AX.nilL ?_) | ((with_reducible refine D.move ?_); refine L.mv U U U ?_) | ((with_reducible refine D.assign ?_); refine L.asg U U U ?_) | ((with_reducible refine D.call ?_); first | refine L.apt U U U U U U (by first | exact trivial | exact ⟨rfl, trivial⟩) U U (by first | omega | (simp; omega)) ?_ | (apply L.cb2 (h2) [0] 0 rfl; rfl; rfl; rfl; rfl; rfl; rfl; (focus ((repeat' (first | exact trivial | refine And.intro ?_ ?_ | refine ⟨_, U, _, U, _, U, ?_⟩ | exact VLe.refl _)); done)); rfl; rfl; rfl; rfl)) | ((with_reducible refine D.ax ?_); refine L.bs1 U U U U U (EC.fold_of U) U U ?_) | ((with_reducible refine D.aw ?_); refine AW.regL ?_) | with_reducible refine K.bN ?_)
    refine ⟨rfl, by omega, ?_⟩
    simp only [e]
    exact (Weak.mk [some 0, some 2] _ _ _ U U U U (by (repeat' (first | exact trivial | refine And.intro ?_ ?_ | refine ⟨_, U, _, U, ?_⟩ | exact VLe.refl _)); done) (by (repeat' (first | exact trivial | exact Or.inr ⟨_, U, rfl⟩ | refine And.intro ?_ ?_ | refine ⟨_, U, _, U, _, U, ?_⟩ | exact VLe.refl _)); done))
  · intro _
    repeat' (first | ((with_reducible refine D.nil ?_); refine AX.nilL ?_) | ((with_reducible refine D.move ?_); refine L.mv U U U ?_) | ((with_reducible refine D.assign ?_); refine L.asg U U U ?_) | ((with_reducible refine D.aw ?_); first | refine K.sq (AW.regL ?_) | refine AW.ret ?_) | with_reducible refine K.tN ?_)
    (exact K.n2 [some 0] U U U U U (by (repeat' (first | exact trivial | refine And.intro ?_ ?_ | refine ⟨_, U, _, U, _, U, ?_⟩ | exact VLe.of_eq (by simp [Sto.upd, hx]))); done) U (by simp [tupV, V.wk, V.wks, constV, Ty.view, Tm.view, hx]))
theorem rec_c (b f n : Tm) (h : b.full + f.full + n.full < 549755813888) : PC E 137 [.agg b.view, .agg f.view, .agg n.view] (.agg (Tm.mk 6 0 (.mk 1 []) [b, f, n]).view) := by
  have h1 := t_c 6 (.mk 1 []) [b, f, n] (by simp; omega) (by simp [Ty.size_eq])
  refine AC.mk Tryz.func137 rfl rfl rfl rfl rfl (Nat.le_of_ble_eq_true rfl) ?_
  repeat' (first | ((with_reducible refine D.nil ?_); first | refine AX.nilL ?_ | refine AX.nilD (by kernel_rfl) ?_) | ((with_reducible refine D.load ?_); refine L.ldb U U U U U U ?_) | ((with_reducible refine D.call ?_); first | refine L.c2 (nat_c) U U U U ?_ | refine L.c2 (h1) U U U U ?_) | ((with_reducible refine D.box ?_); refine L.bx U U U U ?_) | ((with_reducible refine D.alloc ?_); refine L.al U U U ?_) | ((with_reducible refine D.store ?_); refine L.st U U U U U U U U U ?_) | ((with_reducible refine D.ax ?_); refine L.bs3 U U U U U (EC.fold_of U) U U U (EC.fold_of U) U U U (EC.fold_of U) U U ?_) | ((with_reducible refine D.aw ?_); first | refine K.sq (AW.regL ?_) | refine K.sq (AW.regD mixed (by kernel_rfl) ?_) | refine AW.ret ?_) | with_reducible refine K.tN ?_ | with_reducible refine K.r1 (by with_unfolding_all rfl) (by with_unfolding_all rfl) ?_)
  simp [tupV, V.wk, V.wks, constV, Ty.view, Tm.view]
end Go.Ab
namespace Go.Ab
open Go Go.Proofs
set_option maxRecDepth 100000
set_option linter.all false
theorem plus_c : PC E 65 [] (.agg plusT.view) := by
  have h0 := var_c 0
  have h1 := var_c 1
  have h2 := n_c 5 [vT 0] (by simp [Tm.full, Tm.fulls, Ty.size, Ty.sizes, vT])
  have h3 := lam_c (sT (vT 0)) (by simp [Tm.full, Tm.fulls, Ty.size, Ty.sizes, vT, sT])
  have h4 := lam_c (lamT (sT (vT 0))) (by simp [Tm.full, Tm.fulls, Ty.size, Ty.sizes, vT, sT, lamT])
  have h5 := rec_c (vT 1) addF (vT 0) (by simp [Tm.full, Tm.fulls, Ty.size, Ty.sizes, vT, sT, lamT, addF])
  have h6 := lam_c (recT (vT 1) addF (vT 0)) (by simp [Tm.full, Tm.fulls, Ty.size, Ty.sizes, vT, sT, lamT, addF, recT])
  have h7 := lam_c (lamT (recT (vT 1) addF (vT 0))) (by simp [Tm.full, Tm.fulls, Ty.size, Ty.sizes, vT, sT, lamT, addF, recT])
  refine AC.mk Tryz.func65 rfl rfl rfl rfl rfl (Nat.le_of_ble_eq_true rfl) ?_
  repeat' (first | ((with_reducible refine D.nil ?_); refine AX.nilL ?_) | ((with_reducible refine D.call ?_); first | refine L.c2 (h0) U U U U ?_ | refine L.c2 (h1) U U U U ?_ | refine L.c2 (h2) U U U U ?_ | refine L.c2 (h3) U U U U ?_ | refine L.c2 (h4) U U U U ?_ | refine L.c2 (h5) U U U U ?_ | refine L.c2 (h6) U U U U ?_ | refine L.c2 (h7) U U U U ?_) | ((with_reducible refine D.alloc ?_); refine L.al U U U ?_) | ((with_reducible refine D.store ?_); refine L.st U U U U U U U U U ?_) | ((with_reducible refine D.ax ?_); refine L.bs1 U U U U U (EC.fold_of U) U U ?_) | ((with_reducible refine D.aw ?_); first | refine K.sq (AW.regL ?_) | refine AW.ret ?_) | with_reducible refine K.tN ?_ | with_reducible refine K.r1 (by with_unfolding_all rfl) (by with_unfolding_all rfl) ?_)
  rfl
theorem pred_c : PC E 138 [] (.agg predT.view) := by
  have h0 := var_c 0
  have h1 := var_c 1
  have h2 := n_c 4 [] (by simp)
  have h3 := lam_c (vT 1) (by simp [Tm.full, Tm.fulls, Ty.size, Ty.sizes, vT, sT])
  have h4 := lam_c (lamT (vT 1)) (by simp [Tm.full, Tm.fulls, Ty.size, Ty.sizes, vT, sT, lamT])
  have h5 := rec_c zT (lamT (lamT (vT 1))) (vT 0) (by simp [Tm.full, Tm.fulls, Ty.size, Ty.sizes, vT, zT, lamT, addF])
  have h6 := lam_c (recT zT (lamT (lamT (vT 1))) (vT 0)) (by simp [Tm.full, Tm.fulls, Ty.size, Ty.sizes, vT, zT, lamT, addF, recT])
  refine AC.mk Tryz.func138 rfl rfl rfl rfl rfl (Nat.le_of_ble_eq_true rfl) ?_
  repeat' (first | ((with_reducible refine D.nil ?_); refine AX.nilL ?_) | ((with_reducible refine D.call ?_); first | refine L.c2 (h0) U U U U ?_ | refine L.c2 (h1) U U U U ?_ | refine L.c2 (h2) U U U U ?_ | refine L.c2 (h3) U U U U ?_ | refine L.c2 (h4) U U U U ?_ | refine L.c2 (h5) U U U U ?_ | refine L.c2 (h6) U U U U ?_) | ((with_reducible refine D.alloc ?_); refine L.al U U U ?_) | ((with_reducible refine D.store ?_); refine L.st U U U U U U U U U ?_) | ((with_reducible refine D.aw ?_); first | refine K.sq (AW.regL ?_) | refine AW.ret ?_) | with_reducible refine K.tN ?_ | with_reducible refine K.r1 (by with_unfolding_all rfl) (by with_unfolding_all rfl) ?_)
  rfl
theorem sub_c : PC E 66 [] (.agg subT.view) := by
  have h0 := var_c 0
  have h1 := var_c 1
  have hp := pred_c
  have h2 := n_c 3 [predT, vT 0] (by simp [Tm.full, Tm.fulls, Ty.size, Ty.sizes, vT, zT, lamT, predT, recT])
  have h3 := lam_c (apT predT (vT 0)) (by simp [Tm.full, Tm.fulls, Ty.size, Ty.sizes, vT, zT, lamT, predT, recT, apT])
  have h4 := lam_c (lamT (apT predT (vT 0))) (by simp [Tm.full, Tm.fulls, Ty.size, Ty.sizes, vT, zT, lamT, predT, recT, apT])
  have h5 := rec_c (vT 1) subF (vT 0) (by simp [Tm.full, Tm.fulls, Ty.size, Ty.sizes, vT, zT, lamT, predT, recT, apT, subF])
  have h6 := lam_c (recT (vT 1) subF (vT 0)) (by simp [Tm.full, Tm.fulls, Ty.size, Ty.sizes, vT, zT, lamT, predT, recT, apT, subF])
  have h7 := lam_c (lamT (recT (vT 1) subF (vT 0))) (by simp [Tm.full, Tm.fulls, Ty.size, Ty.sizes, vT, zT, lamT, predT, recT, apT, subF])
  refine AC.mk Tryz.func66 rfl rfl rfl rfl rfl (Nat.le_of_ble_eq_true rfl) ?_
  repeat' (first | ((with_reducible refine D.nil ?_); refine AX.nilL ?_) | ((with_reducible refine D.call ?_); first | refine L.c2 (h0) U U U U ?_ | refine L.c2 (h1) U U U U ?_ | refine L.c2 (hp) U U U U ?_ | refine L.c2 (h2) U U U U ?_ | refine L.c2 (h3) U U U U ?_ | refine L.c2 (h4) U U U U ?_ | refine L.c2 (h5) U U U U ?_ | refine L.c2 (h6) U U U U ?_ | refine L.c2 (h7) U U U U ?_) | ((with_reducible refine D.alloc ?_); refine L.al U U U ?_) | ((with_reducible refine D.store ?_); refine L.st U U U U U U U U U ?_) | ((with_reducible refine D.ax ?_); refine L.bs2 U U U U U (EC.fold_of U) U U U (EC.fold_of U) U U ?_) | ((with_reducible refine D.aw ?_); first | refine K.sq (AW.regL ?_) | refine AW.ret ?_) | with_reducible refine K.tN ?_ | with_reducible refine K.r1 (by with_unfolding_all rfl) (by with_unfolding_all rfl) ?_)
  rfl
theorem appMake_c : ∀ (f : Tm) (l : List Tm), f.full + 2 * l.length + (l.map Tm.full).sum < 274877906944 → PC E 64 [.agg f.view, .s .tm l] (.agg (l.foldl apT f).view) := by
  intro f l hl
  have hlen := lsum_len Tm.full Tm.full_pos l
  have hfull : ∀ m, m ≤ l.length → ((l.take m).foldl apT f).full ≤ f.full + 2 * m + ((l.take m).map Tm.full).sum := by
    intro m
    induction m with
    | zero => intro _; simp
    | succ m ih =>
      intro hm
      have h1 := ih (by omega)
      have h2 := lsum_take Tm.full l m (by omega)
      rw [← List.take_append_getElem (by omega : m < l.length), List.foldl_append, List.take_append_getElem (by omega : m < l.length), h2]
      simp only [List.foldl_cons, List.foldl_nil, apT, Tm.full, Tm.fulls, Ty.size, Ty.sizes]
      omega
  refine AC.mk Tryz.func64 rfl rfl rfl rfl rfl (Nat.le_of_ble_eq_true rfl) ?_
  repeat' (first | ((with_reducible refine D.nil ?_); refine AX.nilL ?_) | ((with_reducible refine D.move ?_); refine L.mv U U U ?_) | ((with_reducible refine D.call ?_); refine L.lnt U U U U ?_) | ((with_reducible refine D.box ?_); refine L.bx U U U U ?_) | ((with_reducible refine D.alloc ?_); refine L.al U U U ?_) | ((with_reducible refine D.aw ?_); first | refine K.sq (AW.regL ?_) | refine K.sq (K.sq ?_) | refine AW.regL ?_) | with_reducible refine K.tN ?_)
  refine AW.range l.length (fun m => True)
    (fun m => ([(2, .ptr 0 0), (4, .ptr 1 0), (7, .s .tm l), (8, .i l.length), (9, .i m)], ⟨2, [(0, .var ((l.take m).foldl apT f).view), (1, .var [.i 0, .i 0, .i 0, .slice .nil (.t .ty []), .slice .nil (.t .tm [])])]⟩))
    (by omega) (fun m => rfl) (fun m => rfl) U trivial (Weak.mk [some 0, some 1] _ _ _ U U U U (by (repeat' (first | exact trivial | refine And.intro ?_ ?_ | refine ⟨_, U, _, U, ?_⟩ | exact VLe.refl _)); done) (by (repeat' (first | exact trivial | refine And.intro ?_ ?_ | refine ⟨_, U, _, U, _, U, ?_⟩ | exact VLe.refl _)); done)) ?_ ?_
  · intro m hm hP
    have e : (l.take (m + 1)).foldl apT f = apT ((l.take m).foldl apT f) l[m] := by rw [← List.take_append_getElem hm, List.foldl_append]; rfl
    have h2 := lsum_take_le Tm.full l (m + 1)
    have h3 := lsum_take Tm.full l m hm
    have h4 := hfull m (by omega)
    have h1 := n_c 3 [(l.take m).foldl apT f, l[m]] (by simp only [List.map_cons, List.map_nil, List.sum_cons, List.sum_nil]; omega)
    repeat' (first | ((with_reducible refine D.nil ?_); refine AX.nilL ?_) | ((with_reducible refine D.load ?_); first | refine L.ldb U U U U U U ?_ | refine L.lda U U U U U ?_) | ((with_reducible refine D.call ?_); refine L.c2 (h1) U U U U ?_) | ((with_reducible refine D.alloc ?_); refine L.al U U U ?_) | ((with_reducible refine D.store ?_); refine L.st U U U U U U U U U ?_) | ((with_reducible refine D.indexAddr ?_); refine L.ixt _ U U U U U U U (by assumption) ?_) | ((with_reducible refine D.ax ?_); refine L.bs2 U U U U U (EC.fold_of U) U U U (EC.fold_of U) U U ?_) | ((with_reducible refine D.aw ?_); first | refine K.sq (AW.regL ?_) | refine AW.regL ?_) | with_reducible refine K.tN ?_ | with_reducible refine K.bN ?_)
    refine ⟨rfl, trivial, ?_⟩
    exact (Weak.mk [some 0, some 1] _ _ _ U U U U (by (repeat' (first | exact trivial | refine And.intro ?_ ?_ | refine ⟨_, U, _, U, ?_⟩ | exact VLe.refl _)); done) (by (repeat' (first | exact trivial | refine And.intro ?_ ?_ | refine ⟨_, U, _, U, _, U, ?_⟩ | exact VLe.refl _ | exact VLe.of_eq (by simp [Sto.upd, e, apT]))); done))
  · intro _
    repeat' (first | ((with_reducible refine D.nil ?_); refine AX.nilL ?_) | ((with_reducible refine D.load ?_); refine L.ldb U U U U U U ?_) | ((with_reducible refine D.store ?_); refine L.st U U U U U U U U U ?_) | ((with_reducible refine D.aw ?_); first | refine K.sq (AW.regL ?_) | refine AW.ret ?_) | with_reducible refine K.tN ?_ | with_reducible refine K.r1 (by with_unfolding_all rfl) (by with_unfolding_all rfl) ?_)
    simp [tupV, V.wk, V.wks, constV, Ty.view, Tm.view]
end Go.Ab
namespace Go.Ab
open Go Go.Proofs
set_option maxRecDepth 100000
set_option linter.all false
theorem substLift_c (t : Tm) (fr by_ : Int) (ht : t.full < 274877906944) : PC E 19 [.agg t.view, .i fr, .i by_] (.tup [.agg (if liftErr t fr by_ = 0 then t.re (liftG fr by_) 0 else noTm).view, .i (liftErr t fr by_)]) := by
  have h1 := check_c t (by omega)
  have h2 := within_c fr
  have h3 := within_c by_
  have h4 := near_c t (by omega)
  have h5 : t.err = 0 → t.near = true → (0 ≤ by_ ∧ by_ ≤ 4096) → _ := fun h hn hy => lift_c t fr by_ (by omega) ht (near_lt h hn)
  refine AC.mk Tryz.func19 rfl rfl rfl rfl rfl (Nat.le_of_ble_eq_true rfl) ?_
  repeat' (first | ((with_reducible refine D.nil ?_); refine AX.nilL ?_) | ((with_reducible refine D.load ?_); first | refine L.ldb U U U U U U ?_ | refine AX.sk U U ?_ | ((fail_if_success refine AX.wt U ?_); refine AX.gs U U (fun _ => trivial) (fun h => ?_) (fun h => ?_))) | ((with_reducible refine D.move ?_); first | refine L.mv U U U ?_ | refine AX.sk U U ?_ | ((fail_if_success refine AX.wt U ?_); refine AX.gs U U (fun _ => trivial) (fun h => ?_) (fun h => ?_))) | ((with_reducible refine D.assign ?_); refine L.asg U U U ?_) | ((with_reducible refine D.bin ?_); refine L.bn U U U U U ?_) | ((with_reducible refine D.call ?_); first | refine L.c2 (h1) U U U U ?_ | refine L.c2 (h2) U U U U ?_ | refine L.c2 (h3) U U U U ?_ | refine L.c2 (h4) U U U U ?_ | refine L.c2 (h5 (by simp_all) (by simp_all) (by simp_all)) U U U U ?_ | refine AX.sk U U ?_) | ((with_reducible refine D.box ?_); refine L.bx U U U U ?_) | ((with_reducible refine D.alloc ?_); refine L.al U U U ?_) | ((with_reducible refine D.store ?_); refine L.st U U U U U U U U U ?_) | ((with_reducible refine D.not ?_); first | refine L.nt U U U ?_ | refine AX.sk U U ?_) | ((with_reducible refine D.pick ?_); refine L.pk U U U U ?_) | ((with_reducible refine D.ax ?_); refine L.bd U U U U U ?_) | ((with_reducible refine D.aw ?_); first | refine K.sq (AW.regL ?_) | refine K.sq (K.sq ?_) | refine AW.regL ?_ | refine AW.condT U ?_ | refine AW.condS U (fun h => ?_) (fun h => ?_) | refine AW.skip ?_ | refine AW.ret ?_) | with_reducible refine K.tN ?_ | with_reducible refine K.tR ?_ | with_reducible refine K.r1 (by with_unfolding_all rfl) (by with_unfolding_all rfl) ?_)
  · have e' : t.err ≠ 0 := by simpa using h
    have e : liftErr t fr by_ = t.err := by simp only [liftErr]; rw [if_pos e']
    simp [tupV, V.wk, V.wks, constV, Ty.view, Tm.view, e, noTm, e']
  · rename_i h0
    have e' : ¬ t.err ≠ 0 := by simpa using h0
    have e : liftErr t fr by_ = 1 := by simp only [liftErr]; rw [if_neg e', if_pos (.inl (by intro hc; simp [hc] at h))]
    simp [tupV, V.wk, V.wks, constV, Ty.view, Tm.view, e, noTm]
  · rename_i h0 h1
    have e' : ¬ t.err ≠ 0 := by simpa using h0
    have e : liftErr t fr by_ = 1 := by simp only [liftErr]; rw [if_neg e', if_pos (.inr (.inl (by intro hc; simp [hc] at h)))]
    simp [tupV, V.wk, V.wks, constV, Ty.view, Tm.view, e, noTm]
  · rename_i h0 h1 h2
    have e' : ¬ t.err ≠ 0 := by simpa using h0
    have e : liftErr t fr by_ = 1 := by simp only [liftErr]; rw [if_neg e', if_pos (.inr (.inr (by simpa using h)))]
    simp [tupV, V.wk, V.wks, constV, Ty.view, Tm.view, e, noTm]
  · rename_i h0 h1 h2
    have e' : ¬ t.err ≠ 0 := by simpa using h0
    have e : liftErr t fr by_ = 0 := by
      simp only [liftErr]; rw [if_neg e', if_neg]
      rintro (hc | hc | hc)
      · simp at h1; omega
      · simp at h2; omega
      · simp [hc] at h
    simp [tupV, V.wk, V.wks, constV, Ty.view, Tm.view, e, noTm]
theorem vars_c (g : List Ty) (t : Ty) (hg : (g.map Ty.size).sum < 1099511627776) : PC E 59 [.s .ty g, .agg t.view] (.s .int (varsT g t)) := by
  have hlen := lsum_len Ty.size Ty.size_pos g
  refine AC.mk Tryz.func59 rfl rfl rfl rfl rfl (Nat.le_of_ble_eq_true rfl) ?_
  repeat' (first | ((with_reducible refine D.nil ?_); refine AX.nilL ?_) | ((with_reducible refine D.move ?_); refine L.mv U U U ?_) | ((with_reducible refine D.assign ?_); refine L.asg U U U ?_) | ((with_reducible refine D.call ?_); refine L.lnt U U U U ?_) | ((with_reducible refine D.box ?_); refine L.bx U U U U ?_) | ((with_reducible refine D.aw ?_); first | refine K.sq (AW.regL ?_) | refine K.sq (K.sq ?_) | refine AW.regL ?_) | with_reducible refine K.tN ?_)
  refine AW.range g.length (fun m => True)
    (fun m => ([(0, .s .ty g), (3, .ptr 0 0), (5, .slice (.own 1) (.t .int (((List.range m).filter fun i => decide (g[g.length - 1 - i]? = some t)).map Int.ofNat))), (8, .i g.length), (9, .i m)], ⟨2, [(0, .var t.view), (1, .row)]⟩))
    (by omega) (fun m => rfl) (fun m => rfl) U trivial (Weak.mk [some 0, none] _ _ _ U U U U (by (repeat' (first | exact trivial | refine And.intro ?_ ?_ | refine ⟨_, U, _, U, ?_⟩ | exact VLe.refl _)); done) (by (repeat' (first | exact trivial | exact Or.inl U | refine And.intro ?_ ?_ | refine ⟨_, U, _, U, _, U, ?_⟩ | exact VLe.refl _)); done)) ?_ ?_
  · intro m hm hP
    have hm2 : g.length - 1 - m < g.length := by omega
    have hs2 := lsum_mem Ty.size (List.getElem_mem hm2)
    have hsame := sameTy_c _ g[g.length - 1 - m] t (Nat.le_refl _) (by omega)
    have hg : g[g.length - 1 - m]? = some g[g.length - 1 - m] := List.getElem?_eq_getElem hm2
    have hfl : (List.filter (fun i => decide (g[g.length - 1 - i]? = some t)) (List.range m)).length ≤ m := by have := List.length_filter_le (fun i => decide (g[g.length - 1 - i]? = some t)) (List.range m); simpa using this
    repeat' (first | ((with_reducible refine D.nil ?_); refine AX.nilL ?_) | ((with_reducible refine D.move ?_); refine L.mv U U U ?_) | ((with_reducible refine D.assign ?_); refine L.asg U U U ?_) | ((with_reducible refine D.bin ?_); refine L.sb U U U U (by omega) ?_) | ((with_reducible refine D.call ?_); refine L.lnt U U U U ?_) | ((with_reducible refine D.aw ?_); first | refine K.sq (AW.regL ?_) | refine K.sq (AW.regD mixed (by kernel_rfl) ?_)) | with_reducible refine K.tN ?_)
    refine L.ixt (g.length - 1 - m) rfl rfl rfl rfl (by omega) rfl rfl (by omega) ?_
    repeat' (first | ((with_reducible refine D.nil ?_); first | refine AX.nilL ?_ | refine AX.nilD (by kernel_rfl) ?_) | ((with_reducible refine D.load ?_); first | refine L.ldb U U U U U U ?_ | refine L.lda U U U U U ?_) | ((with_reducible refine D.move ?_); refine L.mv U U U ?_) | ((with_reducible refine D.assign ?_); refine L.asg U U U ?_) | ((with_reducible refine D.call ?_); first | refine L.apt U U U U U U (by first | exact trivial | exact ⟨rfl, trivial⟩) U U (by first | omega | (simp; omega)) ?_ | refine L.c2 (hsame) U U U U ?_) | ((with_reducible refine D.ax ?_); refine L.bs1 U U U U U (EC.fold_of U) U U ?_) | ((with_reducible refine D.aw ?_); first | refine AW.regL ?_ | refine AW.condS U (fun h => ?_) (fun h => ?_) | refine AW.skip ?_) | with_reducible refine K.tN ?_ | with_reducible refine K.bN ?_)
    · exact ⟨rfl, trivial, (Weak.mk [some 0, some 2] _ _ _ U U U U (by (repeat' (first | exact trivial | refine And.intro ?_ ?_ | refine ⟨_, U, _, U, ?_⟩ | exact VLe.refl _ | exact VLe.of_eq (by simp [Sto.upd, List.range_succ, hg, of_decide_eq_true h]))); done) (by (repeat' (first | exact trivial | exact Or.inr ⟨_, U, rfl⟩ | refine And.intro ?_ ?_ | refine ⟨_, U, _, U, _, U, ?_⟩ | exact VLe.refl _)); done))⟩
    · exact ⟨rfl, trivial, (Weak.mk [some 0, some 1] _ _ _ U U U U (by (repeat' (first | exact trivial | refine And.intro ?_ ?_ | refine ⟨_, U, _, U, ?_⟩ | exact VLe.refl _ | exact VLe.of_eq (by simp [Sto.upd, List.range_succ, hg, of_decide_eq_false h]))); done) (by (repeat' (first | exact trivial | exact Or.inr ⟨_, U, rfl⟩ | refine And.intro ?_ ?_ | refine ⟨_, U, _, U, _, U, ?_⟩ | exact VLe.refl _)); done))⟩
  · intro _
    repeat' (first | ((with_reducible refine D.nil ?_); refine AX.nilL ?_) | ((with_reducible refine D.move ?_); refine L.mv U U U ?_) | ((with_reducible refine D.assign ?_); refine L.asg U U U ?_) | ((with_reducible refine D.aw ?_); first | refine K.sq (AW.regL ?_) | refine AW.ret ?_) | with_reducible refine K.tN ?_ | with_reducible refine K.r1 (by with_unfolding_all rfl) (by with_unfolding_all rfl) ?_)
    simp [tupV, V.wk, V.wks]
    rfl
end Go.Ab
namespace Go.Ab
open Go Go.Proofs
set_option maxRecDepth 100000
set_option linter.all false
theorem shapeTy_c : ∀ (b : Nat) (t : Ty), t.size ≤ b → b < 1099511627776 → PC E 183 [.agg t.view] (.bool t.shape) := by
  intro b
  induction b with
  | zero => intro t h; have := t.size_pos; omega
  | succ b ih =>
  intro t hsz hb
  have hsz' := Ty.size_eq t
  have hlen := lsum_len Ty.size Ty.size_pos t.args
  have hsh := Ty.shape_eq t
  refine AC.mk Tryz.func183 rfl rfl rfl rfl rfl (Nat.le_of_ble_eq_true rfl) ?_
  repeat' (first | ((with_reducible refine D.nil ?_); refine AX.nilL ?_) | ((with_reducible refine D.load ?_); refine L.ldb U U U U U U ?_) | ((with_reducible refine D.fieldAddr ?_); refine L.fab U U U U U ?_) | ((with_reducible refine D.assign ?_); refine L.asg U U U ?_) | ((with_reducible refine D.box ?_); refine L.bx U U U U ?_) | ((with_reducible refine D.aw ?_); first | refine K.sq (AW.regL ?_) | refine K.sq (K.sq ?_) | refine AW.regL ?_) | with_reducible refine K.tN ?_)
  refine AW.cutT (ι := { n : Nat // arT t.kind = some n }) (fun n => ([(1, .ptr 0 0), (3, .i n.1)], ⟨1, [(0, .var t.view)]⟩)) ?_ ?_
  · refine AW.block ?_
    repeat' (first | ((with_reducible refine D.nil ?_); refine AX.nilL ?_) | ((with_reducible refine D.assign ?_); refine L.asg U U U ?_) | ((with_reducible refine D.bin ?_); refine L.bn U U U U U ?_) | ((with_reducible refine D.aw ?_); first | refine K.sq (AW.regL ?_) | refine K.sq (K.sq ?_) | refine AW.regL ?_ | refine AW.condT U ?_ | refine AW.condS U (fun h => ?_) (fun h => ?_) | refine AW.skip ?_ | refine AW.ret ?_) | with_reducible refine K.tN ?_ | with_reducible refine K.bN ?_ | with_reducible refine K.bR ?_ | with_reducible refine K.cR ?_ | with_reducible refine K.r1 (by with_unfolding_all rfl) (by with_unfolding_all rfl) ?_)
    · exact ⟨⟨0, by simp at h; simp [arT, h]⟩, (Weak.mk [some 0] _ _ _ U U U U (by (repeat' (first | exact trivial | refine And.intro ?_ ?_ | refine ⟨_, U, _, U, ?_⟩ | exact VLe.refl _)); done) (by (repeat' (first | exact trivial | refine And.intro ?_ ?_ | refine ⟨_, U, _, U, _, U, ?_⟩ | exact VLe.refl _)); done))⟩
    · exact ⟨⟨0, by simp at h; simp [arT, h]⟩, (Weak.mk [some 0] _ _ _ U U U U (by (repeat' (first | exact trivial | refine And.intro ?_ ?_ | refine ⟨_, U, _, U, ?_⟩ | exact VLe.refl _)); done) (by (repeat' (first | exact trivial | refine And.intro ?_ ?_ | refine ⟨_, U, _, U, _, U, ?_⟩ | exact VLe.refl _)); done))⟩
    · exact ⟨⟨0, by simp at h; simp [arT, h]⟩, (Weak.mk [some 0] _ _ _ U U U U (by (repeat' (first | exact trivial | refine And.intro ?_ ?_ | refine ⟨_, U, _, U, ?_⟩ | exact VLe.refl _)); done) (by (repeat' (first | exact trivial | refine And.intro ?_ ?_ | refine ⟨_, U, _, U, _, U, ?_⟩ | exact VLe.refl _)); done))⟩
    · exact ⟨⟨2, by simp at h; simp [arT, h]⟩, (Weak.mk [some 0] _ _ _ U U U U (by (repeat' (first | exact trivial | refine And.intro ?_ ?_ | refine ⟨_, U, _, U, ?_⟩ | exact VLe.refl _)); done) (by (repeat' (first | exact trivial | refine And.intro ?_ ?_ | refine ⟨_, U, _, U, _, U, ?_⟩ | exact VLe.refl _)); done))⟩
    · exact ⟨⟨2, by simp at h; simp [arT, h]⟩, (Weak.mk [some 0] _ _ _ U U U U (by (repeat' (first | exact trivial | refine And.intro ?_ ?_ | refine ⟨_, U, _, U, ?_⟩ | exact VLe.refl _)); done) (by (repeat' (first | exact trivial | refine And.intro ?_ ?_ | refine ⟨_, U, _, U, _, U, ?_⟩ | exact VLe.refl _)); done))⟩
    · have : t.shape = false := by simp at *; simp [hsh, arT, *]
      simp [this, tupV, constV, V.wk, V.wks]
  rintro ⟨n, hn⟩
  repeat' (first | ((with_reducible refine D.nil ?_); refine AX.nilL ?_) | ((with_reducible refine D.load ?_); refine L.ldb U U U U U U ?_) | ((with_reducible refine D.move ?_); refine L.mv U U U ?_) | ((with_reducible refine D.fieldAddr ?_); refine L.fab U U U U U ?_) | ((with_reducible refine D.assign ?_); refine L.asg U U U ?_) | ((with_reducible refine D.bin ?_); refine L.bn U U U U U ?_) | ((with_reducible refine D.call ?_); refine L.lnt U U U U ?_) | ((with_reducible refine D.aw ?_); first | refine K.sq (AW.regL ?_) | refine K.sq (K.sq ?_) | refine AW.regL ?_ | refine AW.condS U (fun h => ?_) (fun h => ?_) | refine AW.skip ?_ | refine AW.ret ?_) | with_reducible refine K.tN ?_ | with_reducible refine K.tR ?_ | with_reducible refine K.r1 (by with_unfolding_all rfl) (by with_unfolding_all rfl) ?_)
  · have h1 : ¬ t.args.length = n := by simp at h; omega
    have : t.shape = false := by simp [hsh, hn, h1]
    simp [this, tupV, constV, V.wk, V.wks]
  have hn' : t.args.length = n := by simp at h; omega
  refine AW.range t.args.length (fun m => ∀ j (hj : j < t.args.length), j < m → (t.args[j]).shape = true)
    (fun m => ([(1, .ptr 0 0), (21, .s .ty t.args), (22, .i t.args.length), (23, .i m)], ⟨1, [(0, .var t.view)]⟩))
    (by omega) (fun m => rfl) (fun m => rfl) U (by intro j hj h; omega) (Weak.mk [some 0] _ _ _ U U U U (by (repeat' (first | exact trivial | refine And.intro ?_ ?_ | refine ⟨_, U, _, U, ?_⟩ | exact VLe.refl _)); done) (by (repeat' (first | exact trivial | refine And.intro ?_ ?_ | refine ⟨_, U, _, U, _, U, ?_⟩ | exact VLe.refl _)); done)) ?_ ?_
  · intro m hm hP
    have hs2 := lsum_mem Ty.size (List.getElem_mem hm)
    repeat' (first | ((with_reducible refine D.nil ?_); refine AX.nilL ?_) | ((with_reducible refine D.load ?_); first | refine L.ldb U U U U U U ?_ | refine L.lda U U U U U ?_) | ((with_reducible refine D.assign ?_); refine L.asg U U U ?_) | ((with_reducible refine D.call ?_); refine L.c2 (ih _ ?_ ?_) U U U U ?_) | ((with_reducible refine D.alloc ?_); refine L.al U U U ?_) | ((with_reducible refine D.store ?_); refine L.st U U U U U U U U U ?_) | ((with_reducible refine D.indexAddr ?_); refine L.ixt _ U U U U U U U (by assumption) ?_) | ((with_reducible refine D.not ?_); refine L.nt U U U ?_) | ((with_reducible refine D.aw ?_); first | refine K.sq (AW.regL ?_) | refine AW.condS U (fun h => ?_) (fun h => ?_) | refine AW.skip ?_ | refine AW.ret ?_) | with_reducible refine K.tN ?_ | with_reducible refine K.bN ?_ | with_reducible refine K.tR ?_ | with_reducible refine K.bR ?_ | with_reducible refine K.gR ?_ | with_reducible refine K.r1 (by with_unfolding_all rfl) (by with_unfolding_all rfl) ?_ | ((with_reducible show @LE.le Nat _ _ _); omega) | ((with_reducible show @LT.lt Nat _ _ _); omega))
    · have h1 : (t.args[m]).shape = false := by simpa using h
      have : t.shape = false := by rw [hsh, all_not Ty.shape hm h1, Bool.and_false]
      simp [this, tupV, constV, V.wk, V.wks]
    · have hh : (t.args[m]).shape = true := by simpa using h
      exact ⟨rfl, all_step (p := fun t => Ty.shape t = true) hm hP hh, (Weak.mk [some 0] _ _ _ U U U U (by (repeat' (first | exact trivial | refine And.intro ?_ ?_ | refine ⟨_, U, _, U, ?_⟩ | exact VLe.refl _)); done) (by (repeat' (first | exact trivial | refine And.intro ?_ ?_ | refine ⟨_, U, _, U, _, U, ?_⟩ | exact VLe.refl _)); done))⟩
  · intro hP
    have : t.shape = true := by simp only [hsh, hn, hn', all_of Ty.shape t.args fun j hj => hP j hj hj]; simp
    repeat' (first | ((with_reducible refine D.nil ?_); refine AX.nilL ?_) | ((with_reducible refine D.assign ?_); refine L.asg U U U ?_) | ((with_reducible refine D.aw ?_); first | refine K.sq (AW.regL ?_) | refine AW.ret ?_) | with_reducible refine K.tN ?_ | with_reducible refine K.r1 (by with_unfolding_all rfl) (by with_unfolding_all rfl) ?_)
    simp [this, tupV, constV, V.wk, V.wks]
theorem sizeTy_c : ∀ (b : Nat) (t : Ty), t.size ≤ b → b < 1099511627776 → PC E 184 [.agg t.view] (.i t.size) := by
  intro b
  induction b with
  | zero => intro t h; have := t.size_pos; omega
  | succ b ih =>
  intro t hsz hb
  have hsz' := Ty.size_eq t
  have hlen := lsum_len Ty.size Ty.size_pos t.args
  refine AC.mk Tryz.func184 rfl rfl rfl rfl rfl (Nat.le_of_ble_eq_true rfl) ?_
  repeat' (first | ((with_reducible refine D.nil ?_); refine AX.nilL ?_) | ((with_reducible refine D.load ?_); refine L.ldb U U U U U U ?_) | ((with_reducible refine D.move ?_); refine L.mv U U U ?_) | ((with_reducible refine D.fieldAddr ?_); refine L.fab U U U U U ?_) | ((with_reducible refine D.assign ?_); refine L.asg U U U ?_) | ((with_reducible refine D.call ?_); refine L.lnt U U U U ?_) | ((with_reducible refine D.box ?_); refine L.bx U U U U ?_) | ((with_reducible refine D.aw ?_); first | refine K.sq (AW.regL ?_) | refine K.sq (K.sq ?_) | refine AW.regL ?_) | with_reducible refine K.tN ?_)
  refine AW.range t.args.length (fun m => True)
    (fun m => ([(3, .i (1 + ((t.args.take m).map Ty.size).sum)), (7, .s .ty t.args), (8, .i t.args.length), (9, .i m)], ⟨1, [(0, .var t.view)]⟩))
    (by omega) (fun m => rfl) (fun m => rfl) U trivial (Weak.mk [some 0] _ _ _ U U U U (by (repeat' (first | exact trivial | refine And.intro ?_ ?_ | refine ⟨_, U, _, U, ?_⟩ | exact VLe.refl _)); done) (by (repeat' (first | exact trivial | refine And.intro ?_ ?_ | refine ⟨_, U, _, U, _, U, ?_⟩ | exact VLe.refl _)); done)) ?_ ?_
  · intro m hm hP
    have hs1 := lsum_take Ty.size t.args m hm
    have hs2 := lsum_mem Ty.size (List.getElem_mem hm)
    have hs3 := lsum_take_le Ty.size t.args (m + 1)
    have e : (1 + ((((t.args.take (m + 1)).map Ty.size).sum : Nat) : Int)) = 1 + (((t.args.take m).map Ty.size).sum : Nat) + t.args[m].size := by rw [hs1]; omega
    repeat' (first | ((with_reducible refine D.nil ?_); refine AX.nilL ?_) | ((with_reducible refine D.load ?_); first | refine L.ldb U U U U U U ?_ | refine L.lda U U U U U ?_) | ((with_reducible refine D.move ?_); refine L.mv U U U ?_) | ((with_reducible refine D.assign ?_); refine L.asg U U U ?_) | ((with_reducible refine D.bin ?_); refine L.ad U U U U (by omega) ?_) | ((with_reducible refine D.call ?_); refine L.c2 (ih _ ?_ ?_) U U U U ?_) | ((with_reducible refine D.alloc ?_); refine L.al U U U ?_) | ((with_reducible refine D.store ?_); refine L.st U U U U U U U U U ?_) | ((with_reducible refine D.indexAddr ?_); refine L.ixt _ U U U U U U U (by assumption) ?_) | ((with_reducible refine D.aw ?_); first | refine K.sq (AW.regL ?_) | refine AW.regL ?_) | with_reducible refine K.tN ?_ | with_reducible refine K.bN ?_ | ((with_reducible show @LE.le Nat _ _ _); omega) | ((with_reducible show @LT.lt Nat _ _ _); omega))
    refine ⟨rfl, trivial, ?_⟩
    simp only [e]
    exact (Weak.mk [some 0] _ _ _ U U U U (by (repeat' (first | exact trivial | refine And.intro ?_ ?_ | refine ⟨_, U, _, U, ?_⟩ | exact VLe.refl _)); done) (by (repeat' (first | exact trivial | refine And.intro ?_ ?_ | refine ⟨_, U, _, U, _, U, ?_⟩ | exact VLe.refl _)); done))
  · intro hP
    repeat' (first | ((with_reducible refine D.nil ?_); refine AX.nilL ?_) | ((with_reducible refine D.move ?_); refine L.mv U U U ?_) | ((with_reducible refine D.assign ?_); refine L.asg U U U ?_) | ((with_reducible refine D.aw ?_); first | refine K.sq (AW.regL ?_) | refine AW.ret ?_) | with_reducible refine K.tN ?_ | with_reducible refine K.r1 (by with_unfolding_all rfl) (by with_unfolding_all rfl) ?_)
    simp [tupV, constV, hsz', V.wk, V.wks]
theorem checkTyR_c (t : Ty) (ht : t.size < 1099511627776) : PC E 168 [.agg t.view] (.i t.err) := by
  have h1 := shapeTy_c _ t (Nat.le_refl _) ht
  have h2 := sizeTy_c _ t (Nat.le_refl _) ht
  refine AC.mk Tryz.func168 rfl rfl rfl rfl rfl (Nat.le_of_ble_eq_true rfl) ?_
  repeat' (first | ((with_reducible refine D.nil ?_); refine AX.nilL ?_) | ((with_reducible refine D.load ?_); refine L.ldb U U U U U U ?_) | ((with_reducible refine D.assign ?_); refine L.asg U U U ?_) | ((with_reducible refine D.bin ?_); refine L.bn U U U U U ?_) | ((with_reducible refine D.call ?_); first | refine L.c2 (h1) U U U U ?_ | refine L.c2 (h2) U U U U ?_) | ((with_reducible refine D.box ?_); refine L.bx U U U U ?_) | ((with_reducible refine D.not ?_); refine L.nt U U U ?_) | ((with_reducible refine D.aw ?_); first | refine K.sq (AW.regL ?_) | refine K.sq (K.sq ?_) | refine AW.regL ?_ | refine AW.condS U (fun h => ?_) (fun h => ?_) | refine AW.skip ?_ | refine AW.ret ?_) | with_reducible refine K.tN ?_ | with_reducible refine K.tR ?_ | with_reducible refine K.r1 (by with_unfolding_all rfl) (by with_unfolding_all rfl) ?_)
  all_goals simp_all [tupV, V.wk, V.wks, constV, Ty.err]
  all_goals (first | omega | (split <;> first | omega | simp_all))
theorem zeroTy_c (t : Ty) : PC E 166 [.agg t.view] (.bool t.isNo) := by
  refine AC.mk Tryz.func166 rfl rfl rfl rfl rfl (Nat.le_of_ble_eq_true rfl) ?_
  repeat' (first | ((with_reducible refine D.nil ?_); refine AX.nilL ?_) | ((with_reducible refine D.load ?_); first | refine L.ldb U U U U U U ?_ | refine AX.sk U U ?_) | ((with_reducible refine D.move ?_); refine L.mv U U U ?_) | ((with_reducible refine D.fieldAddr ?_); first | refine L.fab U U U U U ?_ | refine AX.sk U U ?_ | ((fail_if_success refine AX.wt U ?_); refine AX.gs U U (fun _ => trivial) (fun h => ?_) (fun h => ?_))) | ((with_reducible refine D.assign ?_); refine L.asg U U U ?_) | ((with_reducible refine D.bin ?_); first | refine L.bn U U U U U ?_ | refine AX.sk U U ?_) | ((with_reducible refine D.call ?_); first | refine L.lnt U U U U ?_ | refine AX.sk U U ?_) | ((with_reducible refine D.box ?_); refine L.bx U U U U ?_) | ((with_reducible refine D.pick ?_); refine L.pk U U U U ?_) | ((with_reducible refine D.aw ?_); first | refine K.sq (AW.regL ?_) | refine AW.ret ?_) | with_reducible refine K.tN ?_ | with_reducible refine K.r1 (by with_unfolding_all rfl) (by with_unfolding_all rfl) ?_)
  all_goals simp_all [tupV, V.wk, V.wks, constV, Ty.isNo]
  rw [Bool.eq_iff_iff]; simp
end Go.Ab
namespace Go.Ab
open Go Go.Proofs
set_option maxRecDepth 100000
set_option linter.all false
theorem args_c (k : Int) : PC E 177 [.i k] (.i (argsI k)) := by
  refine AC.mk Tryz.func177 rfl rfl rfl rfl rfl (Nat.le_of_ble_eq_true rfl) ?_
  repeat' (first | ((with_reducible refine D.nil ?_); refine AX.nilL ?_) | ((with_reducible refine D.move ?_); refine L.mv U U U ?_) | ((with_reducible refine D.assign ?_); refine L.asg U U U ?_) | ((with_reducible refine D.bin ?_); refine L.bn U U U U U ?_) | ((with_reducible refine D.aw ?_); first | ((with_reducible refine D.blk ?_); refine AW.block ?_) | refine K.sq (AW.regL ?_) | refine K.sq (K.sq ?_) | refine AW.regL ?_ | refine AW.condT U ?_ | refine AW.condS U (fun h => ?_) (fun h => ?_) | refine AW.skip ?_ | refine AW.ret ?_) | with_reducible refine K.tN ?_ | with_reducible refine K.bN ?_ | with_reducible refine K.tR ?_ | with_reducible refine K.bR ?_ | with_reducible refine K.r1 (by with_unfolding_all rfl) (by with_unfolding_all rfl) ?_)
  all_goals
    simp only [beq_iff_eq, beq_eq_false_iff_ne, ne_eq] at *
    simp [tupV, V.wk, V.wks, constV, argsI, *]
theorem countTm_c : ∀ (b : Nat) (t : Tm), t.full ≤ b → b < 1099511627776 → PC E 88 [.agg t.view] (.i t.size) := by
  intro b
  induction b with
  | zero => intro t h; have := t.full_pos; omega
  | succ b ih =>
  intro t hsz hb
  have hsz' := Tm.full_eq t
  have hszz := Tm.size_eq t
  have hle := Tm.size_le_full t
  have hlen := lsum_len Tm.full Tm.full_pos t.args
  refine AC.mk Tryz.func88 rfl rfl rfl rfl rfl (Nat.le_of_ble_eq_true rfl) ?_
  repeat' (first | ((with_reducible refine D.nil ?_); refine AX.nilL ?_) | ((with_reducible refine D.load ?_); refine L.ldb U U U U U U ?_) | ((with_reducible refine D.move ?_); refine L.mv U U U ?_) | ((with_reducible refine D.fieldAddr ?_); refine L.fab U U U U U ?_) | ((with_reducible refine D.assign ?_); refine L.asg U U U ?_) | ((with_reducible refine D.call ?_); refine L.lnt U U U U ?_) | ((with_reducible refine D.box ?_); refine L.bx U U U U ?_) | ((with_reducible refine D.aw ?_); first | refine K.sq (AW.regL ?_) | refine K.sq (K.sq ?_) | refine AW.regL ?_) | with_reducible refine K.tN ?_)
  refine AW.range t.args.length (fun m => True)
    (fun m => ([(3, .i (1 + ((t.args.take m).map Tm.size).sum)), (7, .s .tm t.args), (8, .i t.args.length), (9, .i m)], ⟨1, [(0, .var t.view)]⟩))
    (by omega) (fun m => rfl) (fun m => rfl) U trivial (Weak.mk [some 0] _ _ _ U U U U (by (repeat' (first | exact trivial | refine And.intro ?_ ?_ | refine ⟨_, U, _, U, ?_⟩ | exact VLe.refl _)); done) (by (repeat' (first | exact trivial | refine And.intro ?_ ?_ | refine ⟨_, U, _, U, _, U, ?_⟩ | exact VLe.refl _)); done)) ?_ ?_
  · intro m hm hP
    have hs1 := lsum_take Tm.size t.args m hm
    have hs2 := lsum_mem Tm.full (List.getElem_mem hm)
    have hs3 := lsum_take_le Tm.size t.args (m + 1)
    have e : (1 + ((((t.args.take (m + 1)).map Tm.size).sum : Nat) : Int)) = 1 + (((t.args.take m).map Tm.size).sum : Nat) + t.args[m].size := by rw [hs1]; omega
    repeat' (first | ((with_reducible refine D.nil ?_); refine AX.nilL ?_) | ((with_reducible refine D.load ?_); first | refine L.ldb U U U U U U ?_ | refine L.lda U U U U U ?_) | ((with_reducible refine D.move ?_); refine L.mv U U U ?_) | ((with_reducible refine D.assign ?_); refine L.asg U U U ?_) | ((with_reducible refine D.bin ?_); refine L.ad U U U U (by omega) ?_) | ((with_reducible refine D.call ?_); refine L.c2 (ih _ ?_ ?_) U U U U ?_) | ((with_reducible refine D.alloc ?_); refine L.al U U U ?_) | ((with_reducible refine D.store ?_); refine L.st U U U U U U U U U ?_) | ((with_reducible refine D.indexAddr ?_); refine L.ixt _ U U U U U U U (by assumption) ?_) | ((with_reducible refine D.aw ?_); first | refine K.sq (AW.regL ?_) | refine AW.regL ?_) | with_reducible refine K.tN ?_ | with_reducible refine K.bN ?_ | ((with_reducible show @LE.le Nat _ _ _); omega) | ((with_reducible show @LT.lt Nat _ _ _); omega))
    refine ⟨rfl, trivial, ?_⟩
    simp only [e]
    exact (Weak.mk [some 0] _ _ _ U U U U (by (repeat' (first | exact trivial | refine And.intro ?_ ?_ | refine ⟨_, U, _, U, ?_⟩ | exact VLe.refl _)); done) (by (repeat' (first | exact trivial | refine And.intro ?_ ?_ | refine ⟨_, U, _, U, _, U, ?_⟩ | exact VLe.refl _)); done))
  · intro hP
    repeat' (first | ((with_reducible refine D.nil ?_); refine AX.nilL ?_) | ((with_reducible refine D.move ?_); refine L.mv U U U ?_) | ((with_reducible refine D.assign ?_); refine L.asg U U U ?_) | ((with_reducible refine D.aw ?_); first | refine K.sq (AW.regL ?_) | refine AW.ret ?_) | with_reducible refine K.tN ?_ | with_reducible refine K.r1 (by with_unfolding_all rfl) (by with_unfolding_all rfl) ?_)
    simp [tupV, constV, hszz, V.wk, V.wks]
end Go.Ab
namespace Go.Ab
open Go Go.Proofs
set_option maxRecDepth 100000
set_option linter.all false
theorem argsI_eq (k : Int) : argsI k = match arK k with | some n => (n : Int) | none => -1 := by
  simp only [argsI, arK]; (repeat' split) <;> simp_all <;> omega
theorem Tm.head_eqR (t : Tm) : t.head = (!((t.args.length : Int) != argsI t.kind) && !decide (t.index < 0) && (!(t.kind != 1) || !(t.index != 0)) && (bif typedK t.kind then !(t.ty.err != 0) else !(!t.ty.isNo))) := by
  simp only [Tm.head, Ty.ok_err, argsI_eq]
  cases hk : arK t.kind with
  | none =>
    have : ((t.args.length : Int) != -1) = true := by simp
    simp [this]
  | some n =>
    have h1 : (t.args.length == n) = !((t.args.length : Int) != ((n : Nat) : Int)) := by rw [Bool.eq_iff_iff]; simp; omega
    have h2 : decide (0 ≤ t.index) = !decide (t.index < 0) := by rw [Bool.eq_iff_iff]; simp
    simp only [h1, h2, bne]
    cases (t.index == 0) <;> cases (t.kind == 1) <;> simp
theorem shapeTm_c : ∀ (b : Nat) (t : Tm), t.full ≤ b → b < 1099511627776 → PC E 144 [.agg t.view] (.bool t.shape) := by
  intro b
  induction b with
  | zero => intro t h; have := t.full_pos; omega
  | succ b ih =>
  intro t hsz hb
  have hsz' := Tm.full_eq t
  have hlen := lsum_len Tm.full Tm.full_pos t.args
  have hsh := Tm.shape_eq t
  have h1 := args_c t.kind
  have h3 := zeroTy_c t.ty
  have h4 := checkTyR_c t.ty (by omega)
  refine AC.mk Tryz.func144 rfl rfl rfl rfl rfl (Nat.le_of_ble_eq_true rfl) ?_
  repeat' (first | ((with_reducible refine D.nil ?_); first | refine AX.nilL ?_ | refine AX.nilD (by kernel_rfl) ?_) | ((with_reducible refine D.load ?_); first | refine L.ldb U U U U U U ?_ | refine AX.sk U U ?_) | ((with_reducible refine D.move ?_); first | refine L.mv U U U ?_ | refine AX.sk U U ?_) | ((with_reducible refine D.fieldAddr ?_); first | refine L.fab U U U U U ?_ | refine AX.sk U U ?_ | ((fail_if_success refine AX.wt U ?_); refine AX.gs U U (fun _ => trivial) (fun h => ?_) (fun h => ?_))) | ((with_reducible refine D.assign ?_); refine L.asg U U U ?_) | ((with_reducible refine D.bin ?_); first | refine L.bn U U U U U ?_ | refine AX.sk U U ?_) | ((with_reducible refine D.call ?_); first | refine L.lnt U U U U ?_ | refine L.c2 (h1) U U U U ?_ | refine L.c2 (h3) U U U U ?_ | refine L.c2 (h4) U U U U ?_) | ((with_reducible refine D.box ?_); refine L.bx U U U U ?_) | ((with_reducible refine D.not ?_); refine L.nt U U U ?_) | ((with_reducible refine D.pick ?_); first | refine L.pk U U U U ?_ | refine AX.sk U U ?_) | ((with_reducible refine D.aw ?_); first | ((with_reducible refine D.blk ?_); refine AW.block ?_) | refine K.sq (AW.regL ?_) | refine K.sq (K.sq ?_) | refine AW.regL ?_ | refine AW.regD mixed (by kernel_rfl) ?_ | refine AW.condT U ?_ | refine AW.condF U ?_ | refine AW.condS U (fun h => ?_) (fun h => ?_) | refine AW.skip ?_ | refine AW.ret ?_) | with_reducible refine K.tN ?_ | with_reducible refine K.bN ?_ | with_reducible refine K.tR ?_ | with_reducible refine K.bR ?_ | with_reducible refine K.r1 (by with_unfolding_all rfl) (by with_unfolding_all rfl) ?_)
  all_goals first
    | (have hd : t.head = false := by rw [t.head_eqR]; simp_all [typedK]
       have : t.shape = false := by rw [hsh, hd, Bool.false_and]
       simp [this, tupV, constV, V.wk, V.wks]; done)
    | (have hd : t.head = true := by rw [t.head_eqR]; simp_all [typedK]
       refine AW.range t.args.length (fun m => ∀ j (hj : j < t.args.length), j < m → (t.args[j]).shape = true)
         (fun m => ([(1, .ptr 0 0), (42, .s .tm t.args), (43, .i t.args.length), (44, .i m)], ⟨1, [(0, .var t.view)]⟩))
         (by omega) (fun m => rfl) (fun m => rfl) U (by intro j hj h; omega) (Weak.mk [some 0] _ _ _ U U U U (by (repeat' (first | exact trivial | refine And.intro ?_ ?_ | refine ⟨_, U, _, U, ?_⟩ | exact VLe.refl _)); done) (by (repeat' (first | exact trivial | refine And.intro ?_ ?_ | refine ⟨_, U, _, U, _, U, ?_⟩ | exact VLe.refl _)); done)) ?_ ?_
       · intro m hm hP
         have hs2 := lsum_mem Tm.full (List.getElem_mem hm)
         repeat' (first | ((with_reducible refine D.nil ?_); refine AX.nilL ?_) | ((with_reducible refine D.load ?_); first | refine L.ldb U U U U U U ?_ | refine L.lda U U U U U ?_) | ((with_reducible refine D.assign ?_); refine L.asg U U U ?_) | ((with_reducible refine D.call ?_); refine L.c2 (ih _ ?_ ?_) U U U U ?_) | ((with_reducible refine D.alloc ?_); refine L.al U U U ?_) | ((with_reducible refine D.store ?_); refine L.st U U U U U U U U U ?_) | ((with_reducible refine D.indexAddr ?_); refine L.ixt _ U U U U U U U (by assumption) ?_) | ((with_reducible refine D.not ?_); refine L.nt U U U ?_) | ((with_reducible refine D.aw ?_); first | refine K.sq (AW.regL ?_) | refine AW.condS U (fun h => ?_) (fun h => ?_) | refine AW.skip ?_ | refine AW.ret ?_) | with_reducible refine K.tN ?_ | with_reducible refine K.bN ?_ | with_reducible refine K.tR ?_ | with_reducible refine K.bR ?_ | with_reducible refine K.gR ?_ | with_reducible refine K.r1 (by with_unfolding_all rfl) (by with_unfolding_all rfl) ?_ | ((with_reducible show @LE.le Nat _ _ _); omega) | ((with_reducible show @LT.lt Nat _ _ _); omega))
         · have h1 : (t.args[m]).shape = false := by simpa using h
           have : t.shape = false := by rw [hsh, all_not Tm.shape hm h1, Bool.and_false]
           simp [this, tupV, constV, V.wk, V.wks]
         · have hh : (t.args[m]).shape = true := by simpa using h
           exact ⟨rfl, all_step (p := fun t => Tm.shape t = true) hm hP hh, (Weak.mk [some 0] _ _ _ U U U U (by (repeat' (first | exact trivial | refine And.intro ?_ ?_ | refine ⟨_, U, _, U, ?_⟩ | exact VLe.refl _)); done) (by (repeat' (first | exact trivial | refine And.intro ?_ ?_ | refine ⟨_, U, _, U, _, U, ?_⟩ | exact VLe.refl _)); done))⟩
       · intro hP
         have : t.shape = true := by simp only [hsh, hd, all_of Tm.shape t.args fun j hj => hP j hj hj]; simp
         repeat' (first | ((with_reducible refine D.nil ?_); refine AX.nilL ?_) | ((with_reducible refine D.assign ?_); refine L.asg U U U ?_) | ((with_reducible refine D.aw ?_); first | refine K.sq (AW.regL ?_) | refine AW.ret ?_) | with_reducible refine K.tN ?_ | with_reducible refine K.r1 (by with_unfolding_all rfl) (by with_unfolding_all rfl) ?_)
         simp [this, tupV, constV, V.wk, V.wks])
theorem checkTmR_c (t : Tm) (ht : t.full < 1099511627776) : PC E 75 [.agg t.view] (.i t.err) := by
  have h1 := shapeTm_c _ t (Nat.le_refl _) ht
  have h2 := countTm_c _ t (Nat.le_refl _) ht
  refine AC.mk Tryz.func75 rfl rfl rfl rfl rfl (Nat.le_of_ble_eq_true rfl) ?_
  repeat' (first | ((with_reducible refine D.nil ?_); refine AX.nilL ?_) | ((with_reducible refine D.load ?_); refine L.ldb U U U U U U ?_) | ((with_reducible refine D.assign ?_); refine L.asg U U U ?_) | ((with_reducible refine D.bin ?_); refine L.bn U U U U U ?_) | ((with_reducible refine D.call ?_); first | refine L.c2 (h1) U U U U ?_ | refine L.c2 (h2) U U U U ?_) | ((with_reducible refine D.box ?_); refine L.bx U U U U ?_) | ((with_reducible refine D.not ?_); refine L.nt U U U ?_) | ((with_reducible refine D.aw ?_); first | refine K.sq (AW.regL ?_) | refine K.sq (K.sq ?_) | refine AW.regL ?_ | refine AW.condS U (fun h => ?_) (fun h => ?_) | refine AW.skip ?_ | refine AW.ret ?_) | with_reducible refine K.tN ?_ | with_reducible refine K.tR ?_ | with_reducible refine K.r1 (by with_unfolding_all rfl) (by with_unfolding_all rfl) ?_)
  all_goals simp_all [tupV, V.wk, V.wks, constV, Tm.err]
  all_goals (first | omega | (split <;> first | omega | simp_all))
end Go.Ab
namespace Go.Ab
open Go Go.Proofs
set_option maxRecDepth 100000
set_option maxHeartbeats 4000000
set_option linter.all false
def HT (n : Nat) : Prop := ∀ (d : Dk) (g : List Ty) (t : Ty) (k : Int), k = (n : Int) - 2 → d.ok → smalls g → t.small → 1 ≤ n → (n = 1 → t.size = 1) → g.length + 3 * n ≤ 10000 →
  AC E 11 [.ptr 0 0, .s .ty g, .agg t.view, .i k] ⟨1, [(0, .var d.cells)]⟩ (.agg (Dk.tm n d g t).1.view) ⟨1, [(0, .var (Dk.tm n d g t).2.cells)]⟩
theorem tm_full {n : Nat} (hn : n ≤ 7) (d : Dk) {g : List Ty} {t : Ty} (hg : smalls g) (ht : t.small) (h1 : 1 ≤ n) (h2 : n = 1 → t.size = 1) : (Dk.tm n d g t).1.full ≤ 50000 := by
  have := (Dk.tm_mk n d g t hg ht h1 h2).full hg ht
  have : 3 ^ n ≤ 3 ^ 7 := Nat.pow_le_pow_right (by omega) hn
  omega
abbrev F14 : AF → AF := id
theorem fin_c (n : Nat) (H : HT n) (hn : n ≤ 7) (depth : Int) (hdep : depth = (n : Int) - 1) (d : Dk) (hd : d.ok) (g : List Ty) (t : Ty) (hg : smalls g) (ht : t.small) (h0 : n = 0 → t.size = 1) (hl : g.length + 3 * (n + 1) ≤ 10000) :
    AW E Tryz.f11.ntmps 1 (partAt [1, 1, 1, 1] (bodyOf Tryz.f11)) [(0, .ptr 0 0), (1, .s .ty g), (3, .i depth), (6, .ptr 1 0), (8, .ptr 2 0)]
      ⟨3, [(0, .var d.cells), (1, .var t.view), (2, .var [.i 0, .i 0, .i 0, .slice .nil (.t .ty []), .slice .nil (.t .tm [])])]⟩
      (retQ E 1 Tryz.f11.results.toList (.agg (d.fin (Dk.tm n) (decide (2 ≤ n)) g t).1.view) ⟨1, [(0, .var (d.fin (Dk.tm n) (decide (2 ≤ n)) g t).2.cells)]⟩) := by
  have hF : 1 ≤ n → ∀ d, ∀ t, t.small → (n = 1 → t.size = 1) → (Dk.tm n d g t).1.full ≤ 50000 := fun h1 d t ht h2 => tm_full hn d hg ht h1 h2
  have hok : ∀ d g t, d.ok → (Dk.tm n d g t).2.ok := fun d g t h => Dk.tm_ok n d g t h
  rcases small_cases ht with rfl | rfl | rfl | ⟨a, b, ha, hb, h1, h2, rfl | rfl⟩
  · show AW _ _ _ (Code.seq _ _) _ _ _
    by_cases hp : 2 ≤ n
    · have hp' : depth > 0 := by omega
      have e : d.fin (Dk.tm n) (decide (2 ≤ n)) g natT = if (d.next 5).1 = 0 then (sT (Dk.tm n (d.next 5).2 g natT).1, (Dk.tm n (d.next 5).2 g natT).2)
        else if (d.next 5).1 = 1 then (apT (apT plusT (Dk.tm n (d.next 5).2 g natT).1) (Dk.tm n (Dk.tm n (d.next 5).2 g natT).2 g natT).1, (Dk.tm n (Dk.tm n (d.next 5).2 g natT).2 g natT).2)
        else if (d.next 5).1 = 2 then (apT (apT subT (Dk.tm n (d.next 5).2 g natT).1) (Dk.tm n (Dk.tm n (d.next 5).2 g natT).2 g natT).1, (Dk.tm n (Dk.tm n (d.next 5).2 g natT).2 g natT).2)
        else (numOf ((d.next 5).2.next 3).1, ((d.next 5).2.next 3).2) := by simp [Dk.fin, natT, hp]
      have hd5 := Dk.next_ok hd 5
      have hx5 := next_c d 5 hd (by omega)
      have hx3 := next_c (d.next 5).2 3 hd5 (by omega)
      have a1 := H (d.next 5).2 g natT (depth - 1) (by omega) hd5 hg small_nat (by omega) (by omega) (by omega)
      have a2 := H (Dk.tm n (d.next 5).2 g natT).2 g natT (depth - 1) (by omega) (hok _ _ _ hd5) hg small_nat (by omega) (by omega) (by omega)
      have f1 := hF (by omega) (d.next 5).2 natT small_nat (by omega)
      have f2 := hF (by omega) (Dk.tm n (d.next 5).2 g natT).2 natT small_nat (by omega)
      have hs := n_c 5 [(Dk.tm n (d.next 5).2 g natT).1] (by simp; omega)
      have p1 : plusT.full ≤ 18 := by decide
      have p2 : subT.full ≤ 36 := by decide
      have ap := appMake_c plusT [(Dk.tm n (d.next 5).2 g natT).1, (Dk.tm n (Dk.tm n (d.next 5).2 g natT).2 g natT).1] (by simp; omega)
      have asb := appMake_c subT [(Dk.tm n (d.next 5).2 g natT).1, (Dk.tm n (Dk.tm n (d.next 5).2 g natT).2 g natT).1] (by simp; omega)
      have hnum := num_c ((d.next 5).2.next 3).1
      repeat' (first | ((with_reducible refine D.nil ?_); first | refine AX.nilL ?_ | refine AX.nilD (by kernel_rfl) ?_) | ((with_reducible refine D.load ?_); refine L.ldb U U U U U U ?_) | ((with_reducible refine D.move ?_); refine L.mv U U U ?_) | ((with_reducible refine D.fieldAddr ?_); refine L.fab U U U U U ?_) | ((with_reducible refine D.assign ?_); refine L.asg U U U ?_) | ((with_reducible refine D.bin ?_); first | refine L.sb U U U U (by omega) ?_ | refine L.bn U U U U U ?_) | ((with_reducible refine D.call ?_); first | (apply L.cb2 (hx5) [0] 0 rfl; rfl; rfl; rfl; rfl; rfl; rfl; (focus ((repeat' (first | exact trivial | refine And.intro ?_ ?_ | refine ⟨_, U, _, U, _, U, ?_⟩ | exact VLe.refl _)); done)); rfl; rfl; rfl; rfl) | (apply L.cb2 (hx3) [0] 0 rfl; rfl; rfl; rfl; rfl; rfl; rfl; (focus ((repeat' (first | exact trivial | refine And.intro ?_ ?_ | refine ⟨_, U, _, U, _, U, ?_⟩ | exact VLe.refl _)); done)); rfl; rfl; rfl; rfl) | (apply L.cb2 (a1) [0] 0 rfl; rfl; rfl; rfl; rfl; rfl; rfl; (focus ((repeat' (first | exact trivial | refine And.intro ?_ ?_ | refine ⟨_, U, _, U, _, U, ?_⟩ | exact VLe.refl _)); done)); rfl; rfl; rfl; rfl) | (apply L.cb2 (a2) [0] 0 rfl; rfl; rfl; rfl; rfl; rfl; rfl; (focus ((repeat' (first | exact trivial | refine And.intro ?_ ?_ | refine ⟨_, U, _, U, _, U, ?_⟩ | exact VLe.refl _)); done)); rfl; rfl; rfl; rfl) | refine L.c2 (plus_c) U U U U ?_ | refine L.c2 (sub_c) U U U U ?_ | refine L.c2 (ap) U U U U ?_ | refine L.c2 (asb) U U U U ?_ | refine L.c2 (hnum) U U U U ?_ | refine L.c2 (hs) U U U U ?_) | ((with_reducible refine D.store ?_); refine L.st U U U U U U U U U ?_) | ((with_reducible refine D.ax ?_); first | refine L.bs1 U U U U U (EC.fold_of U) U U ?_ | refine L.bs2 U U U U U (EC.fold_of U) U U U (EC.fold_of U) U U ?_) | ((with_reducible refine D.aw ?_); first | ((with_reducible refine D.blk ?_); refine AW.block ?_) | refine K.sq (AW.regL ?_) | refine K.sq (AW.regD mixed (by kernel_rfl) ?_) | refine K.sq (K.sq ?_) | refine AW.regL ?_ | refine AW.condT U ?_ | refine AW.condS U (fun h => ?_) (fun h => ?_) | refine AW.skip ?_ | refine AW.ret ?_) | with_reducible refine K.tN ?_ | with_reducible refine K.bN ?_ | with_reducible refine K.tR ?_ | with_reducible refine K.bR ?_)
      all_goals first
        | exact absurd hp' (by simpa using h)
        | skip
      · have e := e.trans (if_pos (by simpa using h))
        (exact K.n2 [some 0] U U U U U (by (repeat' (first | exact trivial | refine And.intro ?_ ?_ | refine ⟨_, U, _, U, _, U, ?_⟩ | exact VLe.of_eq (by simp [Sto.upd, e, sT]))); done) U (by simp [tupV, V.wk, V.wks, constV, Ty.view, Tm.view, e, sT]))
      · rename_i h0
        have e := e.trans ((if_neg (by simpa using h0)).trans (if_pos (by simpa using h)))
        (exact K.n2 [some 0] U U U U U (by (repeat' (first | exact trivial | refine And.intro ?_ ?_ | refine ⟨_, U, _, U, _, U, ?_⟩ | exact VLe.of_eq (by simp [Sto.upd, e, apT]))); done) U (by simp [tupV, V.wk, V.wks, constV, Ty.view, Tm.view, e, apT]))
      · rename_i h0 h1
        have e := e.trans ((if_neg (by simpa using h0)).trans ((if_neg (by simpa using h1)).trans (if_pos (by simpa using h))))
        (exact K.n2 [some 0] U U U U U (by (repeat' (first | exact trivial | refine And.intro ?_ ?_ | refine ⟨_, U, _, U, _, U, ?_⟩ | exact VLe.of_eq (by simp [Sto.upd, e, apT]))); done) U (by simp [tupV, V.wk, V.wks, constV, Ty.view, Tm.view, e, apT]))
      · rename_i h0 h1
        have e := e.trans ((if_neg (by simpa using h0)).trans ((if_neg (by simpa using h1)).trans (if_neg (by simpa using h))))
        (exact K.n2 [some 0] U U U U U (by (repeat' (first | exact trivial | refine And.intro ?_ ?_ | refine ⟨_, U, _, U, _, U, ?_⟩ | exact VLe.of_eq (by simp [Sto.upd, e]))); done) U (by simp [tupV, V.wk, V.wks, constV, Ty.view, Tm.view, e]))
    · have hp' : ¬ depth > 0 := by omega
      have e : d.fin (Dk.tm n) (decide (2 ≤ n)) g natT = (numOf (d.next 3).1, (d.next 3).2) := by simp [Dk.fin, natT, hp]
      have hx3 := next_c d 3 hd (by omega)
      have hnum := num_c (d.next 3).1
      repeat' (first | ((with_reducible refine D.nil ?_); refine AX.nilL ?_) | ((with_reducible refine D.load ?_); refine L.ldb U U U U U U ?_) | ((with_reducible refine D.move ?_); refine L.mv U U U ?_) | ((with_reducible refine D.fieldAddr ?_); refine L.fab U U U U U ?_) | ((with_reducible refine D.assign ?_); refine L.asg U U U ?_) | ((with_reducible refine D.bin ?_); refine L.bn U U U U U ?_) | ((with_reducible refine D.call ?_); first | (apply L.cb2 (hx3) [0] 0 rfl; rfl; rfl; rfl; rfl; rfl; rfl; (focus ((repeat' (first | exact trivial | refine And.intro ?_ ?_ | refine ⟨_, U, _, U, _, U, ?_⟩ | exact VLe.refl _)); done)); rfl; rfl; rfl; rfl) | refine L.c2 (hnum) U U U U ?_) | ((with_reducible refine D.store ?_); refine L.st U U U U U U U U U ?_) | ((with_reducible refine D.aw ?_); first | ((with_reducible refine D.blk ?_); refine AW.block ?_) | refine K.sq (AW.regL ?_) | refine K.sq (K.sq ?_) | refine AW.regL ?_ | refine AW.condT U ?_ | refine AW.condS U (fun h => ?_) (fun h => ?_) | refine AW.skip ?_ | refine AW.ret ?_) | with_reducible refine K.tN ?_ | with_reducible refine K.tR ?_ | with_reducible refine K.bR ?_)
      all_goals first
        | exact absurd hp' (by simpa using h)
        | skip
      (exact K.n2 [some 0] U U U U U (by (repeat' (first | exact trivial | refine And.intro ?_ ?_ | refine ⟨_, U, _, U, _, U, ?_⟩ | exact VLe.of_eq (by simp [Sto.upd, e]))); done) U (by simp [tupV, V.wk, V.wks, constV, Ty.view, Tm.view, e]))
  · show AW _ _ _ (Code.seq _ _) _ _ _
    have hN := n_c 7 [] (by simp)
    by_cases hp : 2 ≤ n
    · have hp' : depth > 0 := by omega
      have e : d.fin (Dk.tm n) (decide (2 ≤ n)) g listT = if (d.next 2).1 = 0 then (nT 8 [(Dk.tm n (d.next 2).2 g natT).1, (Dk.tm n (Dk.tm n (d.next 2).2 g natT).2 g listT).1], (Dk.tm n (Dk.tm n (d.next 2).2 g natT).2 g listT).2) else (nT 7 [], (d.next 2).2) := by simp [Dk.fin, listT, hp]
      have hd2 := Dk.next_ok hd 2
      have hx2 := next_c d 2 hd (by omega)
      have a1 := H (d.next 2).2 g natT (depth - 1) (by omega) hd2 hg small_nat (by omega) (by omega) (by omega)
      have a2 := H (Dk.tm n (d.next 2).2 g natT).2 g listT (depth - 1) (by omega) (hok _ _ _ hd2) hg small_list (by omega) (by omega) (by omega)
      have f1 := hF (by omega) (d.next 2).2 natT small_nat (by omega)
      have f2 := hF (by omega) (Dk.tm n (d.next 2).2 g natT).2 listT small_list (by omega)
      have hs := n_c 8 [(Dk.tm n (d.next 2).2 g natT).1, (Dk.tm n (Dk.tm n (d.next 2).2 g natT).2 g listT).1] (by simp; omega)
      repeat' (first | ((with_reducible refine D.nil ?_); first | refine AX.nilL ?_ | refine AX.nilD (by kernel_rfl) ?_) | ((with_reducible refine D.load ?_); refine L.ldb U U U U U U ?_) | ((with_reducible refine D.move ?_); first | refine L.mv U U U ?_ | refine AX.sk U U ?_ | ((fail_if_success refine AX.wt U ?_); refine AX.gs U U (fun _ => trivial) (fun h => ?_) (fun h => ?_))) | ((with_reducible refine D.fieldAddr ?_); refine L.fab U U U U U ?_) | ((with_reducible refine D.assign ?_); refine L.asg U U U ?_) | ((with_reducible refine D.bin ?_); first | refine L.sb U U U U (by omega) ?_ | refine L.bn U U U U U ?_ | refine AX.sk U U ?_) | ((with_reducible refine D.call ?_); first | (apply L.cb2 (hx2) [0] 0 rfl; rfl; rfl; rfl; rfl; rfl; rfl; (focus ((repeat' (first | exact trivial | refine And.intro ?_ ?_ | refine ⟨_, U, _, U, _, U, ?_⟩ | exact VLe.refl _)); done)); rfl; rfl; rfl; rfl) | (apply L.cb2 (a1) [0] 0 rfl; rfl; rfl; rfl; rfl; rfl; rfl; (focus ((repeat' (first | exact trivial | refine And.intro ?_ ?_ | refine ⟨_, U, _, U, _, U, ?_⟩ | exact VLe.refl _)); done)); rfl; rfl; rfl; rfl) | (apply L.cb2 (a2) [0] 0 rfl; rfl; rfl; rfl; rfl; rfl; rfl; (focus ((repeat' (first | exact trivial | refine And.intro ?_ ?_ | refine ⟨_, U, _, U, _, U, ?_⟩ | exact VLe.refl _)); done)); rfl; rfl; rfl; rfl) | refine L.c2 (nat_c) U U U U ?_ | refine L.c2 (hs) U U U U ?_ | refine L.c2 (hN) U U U U ?_ | refine AX.sk U U ?_) | ((with_reducible refine D.store ?_); refine L.st U U U U U U U U U ?_) | ((with_reducible refine D.pick ?_); refine L.pk U U U U ?_) | ((with_reducible refine D.ax ?_); refine L.bs2 U U U U U (EC.fold_of U) U U U (EC.fold_of U) U U ?_) | ((with_reducible refine D.aw ?_); first | ((with_reducible refine D.blk ?_); refine AW.block ?_) | refine K.sq (AW.regL ?_) | refine K.sq (AW.regD mixed (by kernel_rfl) ?_) | refine K.sq (K.sq ?_) | refine AW.regL ?_ | refine AW.condT U ?_ | refine AW.condF U ?_ | refine AW.condS U (fun h => ?_) (fun h => ?_) | refine AW.skip ?_ | refine AW.ret ?_) | with_reducible refine K.tN ?_ | with_reducible refine K.tR ?_ | with_reducible refine K.bR ?_)
      all_goals first
        | exact absurd hp' (by simpa using h)
        | skip
      · have e := e.trans (if_pos (by simpa using h))
        (exact K.n2 [some 0] U U U U U (by (repeat' (first | exact trivial | refine And.intro ?_ ?_ | refine ⟨_, U, _, U, _, U, ?_⟩ | exact VLe.of_eq (by simp [Sto.upd, e, nT]))); done) U (by simp [tupV, V.wk, V.wks, constV, Ty.view, Tm.view, e, nT]))
      · have e := e.trans (if_neg (by simpa using h))
        (exact K.n2 [some 0] U U U U U (by (repeat' (first | exact trivial | refine And.intro ?_ ?_ | refine ⟨_, U, _, U, _, U, ?_⟩ | exact VLe.of_eq (by simp [Sto.upd, e, nT]))); done) U (by simp [tupV, V.wk, V.wks, constV, Ty.view, Tm.view, e, nT]))
    · have hp' : ¬ depth > 0 := by omega
      have e : d.fin (Dk.tm n) (decide (2 ≤ n)) g listT = (nT 7 [], d) := by simp [Dk.fin, listT, hp]
      repeat' (first | ((with_reducible refine D.nil ?_); refine AX.nilL ?_) | ((with_reducible refine D.load ?_); refine L.ldb U U U U U U ?_) | ((with_reducible refine D.move ?_); first | refine L.mv U U U ?_ | refine AX.sk U U ?_ | ((fail_if_success refine AX.wt U ?_); refine AX.gs U U (fun _ => trivial) (fun h => ?_) (fun h => ?_))) | ((with_reducible refine D.fieldAddr ?_); refine L.fab U U U U U ?_) | ((with_reducible refine D.assign ?_); refine L.asg U U U ?_) | ((with_reducible refine D.bin ?_); first | refine L.bn U U U U U ?_ | refine AX.sk U U ?_) | ((with_reducible refine D.call ?_); first | refine L.c2 (hN) U U U U ?_ | refine AX.sk U U ?_) | ((with_reducible refine D.store ?_); refine L.st U U U U U U U U U ?_) | ((with_reducible refine D.pick ?_); refine L.pk U U U U ?_) | ((with_reducible refine D.aw ?_); first | ((with_reducible refine D.blk ?_); refine AW.block ?_) | refine K.sq (AW.regL ?_) | refine K.sq (K.sq ?_) | refine AW.regL ?_ | refine AW.condT U ?_ | refine AW.condF U ?_ | refine AW.skip ?_ | refine AW.ret ?_) | with_reducible refine K.tN ?_ | with_reducible refine K.tR ?_ | with_reducible refine K.bR ?_)
      all_goals first
        | exact absurd hp' (by simpa using h)
        | skip
      (exact K.n2 [some 0] U U U U U (by (repeat' (first | exact trivial | refine And.intro ?_ ?_ | refine ⟨_, U, _, U, _, U, ?_⟩ | exact VLe.of_eq (by simp [Sto.upd, e, nT]))); done) U (by simp [tupV, V.wk, V.wks, constV, Ty.view, Tm.view, e, nT]))
  · show AW _ _ _ (Code.seq _ _) _ _ _
    have hN := n_c 13 [] (by simp)
    have e : d.fin (Dk.tm n) (decide (2 ≤ n)) g unitT = (nT 13 [], d) := by simp [Dk.fin, unitT]
    repeat' (first | ((with_reducible refine D.nil ?_); refine AX.nilL ?_) | ((with_reducible refine D.load ?_); refine L.ldb U U U U U U ?_) | ((with_reducible refine D.fieldAddr ?_); refine L.fab U U U U U ?_) | ((with_reducible refine D.assign ?_); refine L.asg U U U ?_) | ((with_reducible refine D.bin ?_); refine L.bn U U U U U ?_) | ((with_reducible refine D.call ?_); refine L.c2 (hN) U U U U ?_) | ((with_reducible refine D.store ?_); refine L.st U U U U U U U U U ?_) | ((with_reducible refine D.aw ?_); first | ((with_reducible refine D.blk ?_); refine AW.block ?_) | refine K.sq (AW.regL ?_) | refine K.sq (K.sq ?_) | refine AW.regL ?_ | refine AW.condF U ?_ | refine AW.skip ?_ | refine AW.ret ?_) | with_reducible refine K.tN ?_ | with_reducible refine K.bN ?_)
    (exact K.n2 [some 0] U U U U U (by (repeat' (first | exact trivial | refine And.intro ?_ ?_ | refine ⟨_, U, _, U, _, U, ?_⟩ | exact VLe.refl _)); done) U (by simp [tupV, V.wk, V.wks, constV, Ty.view, Tm.view, e, nT]))
  · have hn0 : n ≠ 0 := fun h => by have := h0 h; rw [two_size] at this; omega
    have sa := small_one ha h1
    have sb := small_one hb h2
    have e : d.fin (Dk.tm n) (decide (2 ≤ n)) g (twoT a b) = (nT 10 [(Dk.tm n d g a).1, (Dk.tm n (Dk.tm n d g a).2 g b).1], (Dk.tm n (Dk.tm n d g a).2 g b).2) := by simp [Dk.fin, twoT]
    have a1 := H d g a (depth - 1) (by omega) hd hg sa (by omega) (fun _ => h1) (by omega)
    have a2 := H (Dk.tm n d g a).2 g b (depth - 1) (by omega) (hok _ _ _ hd) hg sb (by omega) (fun _ => h2) (by omega)
    have f1 := hF (by omega) d a sa (fun _ => h1)
    have f2 := hF (by omega) (Dk.tm n d g a).2 b sb (fun _ => h2)
    have hs := n_c 10 [(Dk.tm n d g a).1, (Dk.tm n (Dk.tm n d g a).2 g b).1] (by simp; omega)
    have l0 : 0 < (twoT a b).args.length := by simp [twoT]
    have l1 : 1 < (twoT a b).args.length := by simp [twoT]
    show AW _ _ _ (Code.seq _ _) _ _ _
    repeat' (first | ((with_reducible refine D.nil ?_); first | refine AX.nilL ?_ | refine AX.nilD (by kernel_rfl) ?_) | ((with_reducible refine D.load ?_); first | refine L.ldb U U U U U U ?_ | refine L.lda U U U U U ?_) | ((with_reducible refine D.move ?_); refine L.mv U U U ?_) | ((with_reducible refine D.fieldAddr ?_); refine L.fab U U U U U ?_) | ((with_reducible refine D.assign ?_); refine L.asg U U U ?_) | ((with_reducible refine D.bin ?_); first | refine L.sb U U U U (by omega) ?_ | refine L.bn U U U U U ?_) | ((with_reducible refine D.call ?_); first | (apply L.cb2 (a1) [0] 0 rfl; rfl; rfl; rfl; rfl; rfl; rfl; (focus ((repeat' (first | exact trivial | refine And.intro ?_ ?_ | refine ⟨_, U, _, U, _, U, ?_⟩ | exact VLe.refl _)); done)); rfl; rfl; rfl; rfl) | (apply L.cb2 (a2) [0] 0 rfl; rfl; rfl; rfl; rfl; rfl; rfl; (focus ((repeat' (first | exact trivial | refine And.intro ?_ ?_ | refine ⟨_, U, _, U, _, U, ?_⟩ | exact VLe.refl _)); done)); rfl; rfl; rfl; rfl) | refine L.c2 (hs) U U U U ?_) | ((with_reducible refine D.store ?_); refine L.st U U U U U U U U U ?_) | ((with_reducible refine D.indexAddr ?_); refine L.ixt _ U U U U U U U (by assumption) ?_) | ((with_reducible refine D.ax ?_); refine L.bs2 U U U U U (EC.fold_of U) U U U (EC.fold_of U) U U ?_) | ((with_reducible refine D.aw ?_); first | ((with_reducible refine D.blk ?_); refine AW.block ?_) | refine K.sq (AW.regL ?_) | refine K.sq (AW.regD mixed (by kernel_rfl) ?_) | refine K.sq (K.sq ?_) | refine AW.regL ?_ | refine AW.condT U ?_ | refine AW.condF U ?_ | refine AW.ret ?_) | with_reducible refine K.tN ?_ | with_reducible refine K.tR ?_ | with_reducible refine K.bR ?_)
    (exact K.n2 [some 0] U U U U U (by (repeat' (first | exact trivial | refine And.intro ?_ ?_ | refine ⟨_, U, _, U, _, U, ?_⟩ | exact VLe.refl _)); done) U (by simp [tupV, V.wk, V.wks, constV, Ty.view, Tm.view, e, nT]))
  · have hn0 : n ≠ 0 := fun h => by have := h0 h; rw [fun_size] at this; omega
    have sa := small_one ha h1
    have sb := small_one hb h2
    have hga := smalls_app hg (smalls_cons sa smalls_nil)
    have e : d.fin (Dk.tm n) (decide (2 ≤ n)) g (funT a b) = (lmT a (Dk.tm n d (g ++ [a]) b).1, (Dk.tm n d (g ++ [a]) b).2) := by simp [Dk.fin, funT]
    have a1 := H d (g ++ [a]) b (depth - 1) (by omega) hd hga sb (by omega) (fun _ => h2) (by simp; omega)
    have f1 := tm_full hn d hga sb (by omega) (fun _ => h2)
    have hlo := longer_c g [a] (by simp; omega)
    have hs := t_c 2 a [(Dk.tm n d (g ++ [a]) b).1] (by simp; omega) (by omega)
    have l0 : 0 < (funT a b).args.length := by simp [funT]
    have l1 : 1 < (funT a b).args.length := by simp [funT]
    show AW _ _ _ (Code.seq _ _) _ _ _
    repeat' (first | ((with_reducible refine D.nil ?_); first | refine AX.nilL ?_ | refine AX.nilD (by kernel_rfl) ?_) | ((with_reducible refine D.load ?_); first | refine L.ldb U U U U U U ?_ | refine L.lda U U U U U ?_) | ((with_reducible refine D.move ?_); refine L.mv U U U ?_) | ((with_reducible refine D.fieldAddr ?_); refine L.fab U U U U U ?_) | ((with_reducible refine D.assign ?_); refine L.asg U U U ?_) | ((with_reducible refine D.bin ?_); first | refine L.sb U U U U (by omega) ?_ | refine L.bn U U U U U ?_) | ((with_reducible refine D.call ?_); first | (apply L.cb2 (a1) [0] 0 rfl; rfl; rfl; rfl; rfl; rfl; rfl; (focus ((repeat' (first | exact trivial | refine And.intro ?_ ?_ | refine ⟨_, U, _, U, _, U, ?_⟩ | exact VLe.refl _)); done)); rfl; rfl; rfl; rfl) | refine L.c2 (hlo) U U U U ?_ | refine L.c2 (hs) U U U U ?_) | ((with_reducible refine D.store ?_); refine L.st U U U U U U U U U ?_) | ((with_reducible refine D.indexAddr ?_); refine L.ixt _ U U U U U U U (by assumption) ?_) | ((with_reducible refine D.ax ?_); refine L.bs1 U U U U U (EC.fold_of U) U U ?_) | ((with_reducible refine D.aw ?_); first | ((with_reducible refine D.blk ?_); refine AW.block ?_) | refine K.sq (AW.regL ?_) | refine K.sq (AW.regD mixed (by kernel_rfl) ?_) | refine K.sq (K.sq ?_) | refine AW.regL ?_ | refine AW.condT U ?_ | refine AW.condF U ?_ | refine AW.ret ?_) | with_reducible refine K.tN ?_ | with_reducible refine K.tR ?_ | with_reducible refine K.bR ?_)
    (exact K.n2 [some 0] U U U U U (by (repeat' (first | exact trivial | refine And.intro ?_ ?_ | refine ⟨_, U, _, U, _, U, ?_⟩ | exact VLe.refl _)); done) U (by simp [tupV, V.wk, V.wks, constV, Ty.view, Tm.view, e, lmT]))
end Go.Ab
namespace Go.Ab
open Go Go.Proofs
set_option maxRecDepth 100000
set_option maxHeartbeats 4000000
set_option linter.all false
theorem numOf_full (d : Dk) : (numOf (d.next 3).1).full ≤ 6 := by
  obtain ⟨m, hm, e⟩ := numOf_lt d
  rw [e, numT_full]; omega
theorem smalls_sum {g : List Ty} (h : smalls g) : (g.map Ty.size).sum ≤ 3 * g.length := by
  induction g with
  | nil => simp
  | cons t l ih =>
    have h1 := (h t (by simp)).2
    have h2 := ih fun x hx => h x (by simp [hx])
    simp only [List.map_cons, List.sum_cons, List.length_cons]; omega
theorem findF_none' {g : List Ty} {t : Ty} (h : ∀ j, j < g.length → isFn g t j = false) : findF g t = none := by
  simp only [findF, List.find?_eq_none, List.mem_range]
  intro j hj; simp [h j hj]
theorem findF_at {g : List Ty} {t : Ty} {m : Nat} (hm : m < g.length) (h : ∀ j, j < m → isFn g t j = false) (h1 : isFn g t m = true) : findF g t = some m := by
  simp only [findF, List.find?_range_eq_some, List.mem_range]
  exact ⟨h1, hm, fun j hj => by simp [h j hj]⟩
theorem mid_c (n : Nat) (H : HT n) (hn : n ≤ 7) (depth : Int) (hdep : depth = (n : Int) - 1) (d : Dk) (hd : d.ok) (g : List Ty) (t : Ty) (hg : smalls g) (ht : t.small) (h0 : n = 0 → t.size = 1) (hl : g.length + 3 * (n + 1) ≤ 10000) :
    AW E Tryz.f11.ntmps 1 (partAt [1, 1, 1] (bodyOf Tryz.f11)) [(0, .ptr 0 0), (1, .s .ty g), (3, .i depth), (6, .ptr 1 0), (8, .ptr 2 0)]
      ⟨3, [(0, .var d.cells), (1, .var t.view), (2, .var [.i 0, .i 0, .i 0, .slice .nil (.t .ty []), .slice .nil (.t .tm [])])]⟩
      (retQ E 1 Tryz.f11.results.toList (.agg (d.mid (Dk.tm n) (decide (2 ≤ n)) g t).1.view) ⟨1, [(0, .var (d.mid (Dk.tm n) (decide (2 ≤ n)) g t).2.cells)]⟩) := by
  have hok : ∀ d g t, d.ok → (Dk.tm n d g t).2.ok := fun d g t h => Dk.tm_ok n d g t h
  by_cases hp : 2 ≤ n
  case neg =>
    have hp' : ¬ depth > 0 := by omega
    have e : d.mid (Dk.tm n) (decide (2 ≤ n)) g t = d.fin (Dk.tm n) (decide (2 ≤ n)) g t := by simp [Dk.mid, hp]
    show AW _ _ _ (Code.seq _ _) _ _ _
    repeat' (first | ((with_reducible refine D.nil ?_); refine AX.nilL ?_) | ((with_reducible refine D.move ?_); refine L.mv U U U ?_) | ((with_reducible refine D.bin ?_); refine L.bn U U U U U ?_) | ((with_reducible refine D.aw ?_); (fail_if_success with_reducible refine D.stopR (id := 29) ?_); (fail_if_success with_reducible refine D.stopS (id := 29) ?_); first | refine K.sq (AW.regL ?_) | refine K.sq (K.sq ?_) | refine AW.regL ?_ | refine AW.condS U (fun h => ?_) (fun h => ?_) | refine AW.skip ?_) | with_reducible refine K.tN ?_)
    · exact absurd (by simpa using h) hp'
    · rw [e]; exact AW.weak (Weak.mk [some 0, some 1, some 2] _ _ _ U U U U (by (repeat' (first | exact trivial | refine And.intro ?_ ?_ | refine ⟨_, U, _, U, ?_⟩ | exact VLe.refl _)); done) (by (repeat' (first | exact trivial | refine And.intro ?_ ?_ | refine ⟨_, U, _, U, _, U, ?_⟩ | exact VLe.refl _)); done)) (fin_c n H hn depth hdep d hd g t hg ht h0 hl)
  have hp' : depth > 0 := by omega
  have hx8 := next_c d 8 hd (by omega)
  have e := Dk.mid_pos (rec := Dk.tm n) (d := d) (g := g) (t := t) (pos := decide (2 ≤ n)) (by simpa using hp)
  have hD := Dk.next_ok hd 8
  have tp : AC E 12 [.ptr 0 0, .i 0] ⟨1, [(0, .var (d.next 8).2.cells)]⟩ (.agg ((d.next 8).2.type 0).1.view) ⟨1, [(0, .var ((d.next 8).2.type 0).2.cells)]⟩ := type_c 0 0 (d.next 8).2 (by omega) (by omega) (by omega) hD
  have hS := Dk.type0 (d.next 8).2
  have hD1 := Dk.type_ok 0 _ hD
  generalize (d.next 8).1 = kk at *
  generalize (d.next 8).2 = W at *
  generalize (W.type 0).1 = S at *
  generalize (W.type 0).2 = D1 at *
  have hSs := small_one hS.1 hS.2
  have hF : ∀ d g t, smalls g → t.small → (Dk.tm n d g t).1.full ≤ 50000 := fun d g t hg ht => tm_full hn d hg ht (by omega) (by omega)
  have hH : ∀ d g t, d.ok → smalls g → t.small → g.length + 3 * n ≤ 10000 → AC E 11 [.ptr 0 0, .s .ty g, .agg t.view, .i (depth - 1)] ⟨1, [(0, .var d.cells)]⟩ (.agg (Dk.tm n d g t).1.view) ⟨1, [(0, .var (Dk.tm n d g t).2.cells)]⟩ :=
    fun d g t h1 h2 h3 h4 => H d g t (depth - 1) (by omega) h1 h2 h3 (by omega) (by omega) h4
  have hts := ht.2
  have ht1 : t.size < 1000000 := by omega
  have gS := smalls_app hg (smalls_cons hSs smalls_nil)
  have g2 := smalls_app hg (smalls_cons small_nat (smalls_cons ht smalls_nil))
  have g3 := smalls_app hg (smalls_cons small_nat (smalls_cons small_list (smalls_cons ht smalls_nil)))
  show AW _ _ _ (Code.seq _ _) _ _ _
  by_cases k0 : kk = 0
  · subst k0
    simp only [if_true] at e
    have a := hH D1 (g ++ [S]) t hD1 gS ht (by simp; omega)
    have b := hH _ g S (hok _ (g ++ [S]) t hD1) hg hSs (by omega)
    have fa := hF D1 (g ++ [S]) t gS ht
    have fb := hF (Dk.tm n D1 (g ++ [S]) t).2 g S hg hSs
    have lo := longer_c g [S] (by simp; omega)
    have c1 := t_c 2 S [(Dk.tm n D1 (g ++ [S]) t).1] (by simp; omega) (by omega)
    have c2 := n_c 3 [lmT S (Dk.tm n D1 (g ++ [S]) t).1, (Dk.tm n (Dk.tm n D1 (g ++ [S]) t).2 g S).1] (by simp [lmT, Tm.full, Tm.fulls]; omega)
    repeat' (first | ((with_reducible refine D.nil ?_); first | refine AX.nilL ?_ | refine AX.nilD (by kernel_rfl) ?_) | ((with_reducible refine D.load ?_); refine L.ldb U U U U U U ?_) | ((with_reducible refine D.move ?_); refine L.mv U U U ?_) | ((with_reducible refine D.assign ?_); refine L.asg U U U ?_) | ((with_reducible refine D.bin ?_); first | refine L.sb U U U U (by omega) ?_ | refine L.bn U U U U U ?_) | ((with_reducible refine D.call ?_); first | (apply L.cb2 (hx8) [0] 0 rfl; rfl; rfl; rfl; rfl; rfl; rfl; (focus ((repeat' (first | exact trivial | refine And.intro ?_ ?_ | refine ⟨_, U, _, U, _, U, ?_⟩ | exact VLe.refl _)); done)); rfl; rfl; rfl; rfl) | (apply L.cb2 (tp) [0] 0 rfl; rfl; rfl; rfl; rfl; rfl; rfl; (focus ((repeat' (first | exact trivial | refine And.intro ?_ ?_ | refine ⟨_, U, _, U, _, U, ?_⟩ | exact VLe.refl _)); done)); rfl; rfl; rfl; rfl) | (apply L.cb2 (a) [0] 0 rfl; rfl; rfl; rfl; rfl; rfl; rfl; (focus ((repeat' (first | exact trivial | refine And.intro ?_ ?_ | refine ⟨_, U, _, U, _, U, ?_⟩ | exact VLe.refl _)); done)); rfl; rfl; rfl; rfl) | (apply L.cb2 (b) [0] 0 rfl; rfl; rfl; rfl; rfl; rfl; rfl; (focus ((repeat' (first | exact trivial | refine And.intro ?_ ?_ | refine ⟨_, U, _, U, _, U, ?_⟩ | exact VLe.refl _)); done)); rfl; rfl; rfl; rfl) | refine L.c2 (lo) U U U U ?_ | refine L.c2 (c1) U U U U ?_ | refine L.c2 (c2) U U U U ?_) | ((with_reducible refine D.alloc ?_); refine L.al U U U ?_) | ((with_reducible refine D.store ?_); refine L.st U U U U U U U U U ?_) | ((with_reducible refine D.ax ?_); first | refine L.bs1 U U U U U (EC.fold_of U) U U ?_ | refine L.bs2 U U U U U (EC.fold_of U) U U U (EC.fold_of U) U U ?_) | ((with_reducible refine D.aw ?_); (fail_if_success with_reducible refine D.stopR (id := 29) ?_); (fail_if_success with_reducible refine D.stopS (id := 29) ?_); first | ((with_reducible refine D.blk ?_); refine AW.block ?_) | refine K.sq (AW.regL ?_) | refine K.sq (AW.regD mixed (by kernel_rfl) ?_) | refine K.sq (K.sq ?_) | refine AW.regL ?_ | refine AW.condT U ?_ | refine AW.condS U (fun h => ?_) (fun h => ?_) | refine AW.skip ?_ | refine AW.ret ?_) | with_reducible refine K.tN ?_ | with_reducible refine K.tR ?_ | with_reducible refine K.bR ?_)
    · (exact K.n2 [some 0] U U U U U (by (repeat' (first | exact trivial | refine And.intro ?_ ?_ | refine ⟨_, U, _, U, _, U, ?_⟩ | exact VLe.of_eq (by simp [Sto.upd, e, Dk.m0, apT]))); done) U (by simp [tupV, V.wk, V.wks, constV, Ty.view, Tm.view, e, Dk.m0, apT]))
    · exact absurd hp' (by simpa using h)
  rw [if_neg k0] at e
  by_cases k1 : kk = 1
  · subst k1
    rw [if_pos rfl] at e
    have a := hH D1 g t hD1 hg ht (by omega)
    have b := hH _ g S (hok _ g t hD1) hg hSs (by omega)
    have fa := hF D1 g t hg ht
    have fb := hF (Dk.tm n D1 g t).2 g S hg hSs
    have c1 := n_c 10 [(Dk.tm n D1 g t).1, (Dk.tm n (Dk.tm n D1 g t).2 g S).1] (by simp; omega)
    have c2 := n_c 11 [nT 10 [(Dk.tm n D1 g t).1, (Dk.tm n (Dk.tm n D1 g t).2 g S).1]] (by simp [nT, Tm.full, Tm.fulls, Ty.size, Ty.sizes]; omega)
    repeat' (first | ((with_reducible refine D.nil ?_); first | refine AX.nilL ?_ | refine AX.nilD (by kernel_rfl) ?_) | ((with_reducible refine D.load ?_); refine L.ldb U U U U U U ?_) | ((with_reducible refine D.move ?_); refine L.mv U U U ?_) | ((with_reducible refine D.assign ?_); refine L.asg U U U ?_) | ((with_reducible refine D.bin ?_); first | refine L.sb U U U U (by omega) ?_ | refine L.bn U U U U U ?_) | ((with_reducible refine D.call ?_); first | (apply L.cb2 (hx8) [0] 0 rfl; rfl; rfl; rfl; rfl; rfl; rfl; (focus ((repeat' (first | exact trivial | refine And.intro ?_ ?_ | refine ⟨_, U, _, U, _, U, ?_⟩ | exact VLe.refl _)); done)); rfl; rfl; rfl; rfl) | (apply L.cb2 (tp) [0] 0 rfl; rfl; rfl; rfl; rfl; rfl; rfl; (focus ((repeat' (first | exact trivial | refine And.intro ?_ ?_ | refine ⟨_, U, _, U, _, U, ?_⟩ | exact VLe.refl _)); done)); rfl; rfl; rfl; rfl) | (apply L.cb2 (a) [0] 0 rfl; rfl; rfl; rfl; rfl; rfl; rfl; (focus ((repeat' (first | exact trivial | refine And.intro ?_ ?_ | refine ⟨_, U, _, U, _, U, ?_⟩ | exact VLe.refl _)); done)); rfl; rfl; rfl; rfl) | (apply L.cb2 (b) [0] 0 rfl; rfl; rfl; rfl; rfl; rfl; rfl; (focus ((repeat' (first | exact trivial | refine And.intro ?_ ?_ | refine ⟨_, U, _, U, _, U, ?_⟩ | exact VLe.refl _)); done)); rfl; rfl; rfl; rfl) | refine L.c2 (c1) U U U U ?_ | refine L.c2 (c2) U U U U ?_) | ((with_reducible refine D.alloc ?_); refine L.al U U U ?_) | ((with_reducible refine D.store ?_); refine L.st U U U U U U U U U ?_) | ((with_reducible refine D.ax ?_); first | refine L.bs1 U U U U U (EC.fold_of U) U U ?_ | refine L.bs2 U U U U U (EC.fold_of U) U U U (EC.fold_of U) U U ?_) | ((with_reducible refine D.aw ?_); (fail_if_success with_reducible refine D.stopR (id := 29) ?_); (fail_if_success with_reducible refine D.stopS (id := 29) ?_); first | ((with_reducible refine D.blk ?_); refine AW.block ?_) | refine K.sq (AW.regL ?_) | refine K.sq (AW.regD mixed (by kernel_rfl) ?_) | refine K.sq (K.sq ?_) | refine AW.regL ?_ | refine AW.condT U ?_ | refine AW.condF U ?_ | refine AW.condS U (fun h => ?_) (fun h => ?_) | refine AW.skip ?_ | refine AW.ret ?_) | with_reducible refine K.tN ?_ | with_reducible refine K.tR ?_ | with_reducible refine K.bR ?_)
    · (exact K.n2 [some 0] U U U U U (by (repeat' (first | exact trivial | refine And.intro ?_ ?_ | refine ⟨_, U, _, U, _, U, ?_⟩ | exact VLe.of_eq (by simp [Sto.upd, e, Dk.m1, nT]))); done) U (by simp [tupV, V.wk, V.wks, constV, Ty.view, Tm.view, e, Dk.m1, nT]))
    · exact absurd hp' (by simpa using h)
  rw [if_neg k1] at e
  by_cases k2 : kk = 2
  · subst k2
    rw [if_pos rfl] at e
    have a := hH W (g ++ [natT, t]) t hD g2 ht (by simp; omega)
    have b := hH _ g t (hok _ (g ++ [natT, t]) t hD) hg ht (by omega)
    have hdb := hok _ g t (hok _ (g ++ [natT, t]) t hD)
    have fa := hF W (g ++ [natT, t]) t g2 ht
    have fb := hF (Dk.tm n W (g ++ [natT, t]) t).2 g t hg ht
    have lo := longer_c g [natT, t] (by simp; omega)
    have nx := next_c _ 3 hdb (by omega)
    have nu := num_c ((Dk.tm n (Dk.tm n W (g ++ [natT, t]) t).2 g t).2.next 3).1
    have fn := numOf_full (Dk.tm n (Dk.tm n W (g ++ [natT, t]) t).2 g t).2
    have en : natT.size = 1 := rfl
    have c1 := t_c 2 t [(Dk.tm n W (g ++ [natT, t]) t).1] (by simp; omega) (by omega)
    have c2 := t_c 2 natT [lmT t (Dk.tm n W (g ++ [natT, t]) t).1] (by simp [lmT, Tm.full, Tm.fulls]; omega) (by omega)
    have c3 := t_c 6 t [(Dk.tm n (Dk.tm n W (g ++ [natT, t]) t).2 g t).1, lmT natT (lmT t (Dk.tm n W (g ++ [natT, t]) t).1), numOf ((Dk.tm n (Dk.tm n W (g ++ [natT, t]) t).2 g t).2.next 3).1] (by simp [lmT, Tm.full, Tm.fulls]; omega) (by omega)
    repeat' (first | ((with_reducible refine D.nil ?_); first | refine AX.nilL ?_ | refine AX.nilD (by kernel_rfl) ?_) | ((with_reducible refine D.load ?_); refine L.ldb U U U U U U ?_) | ((with_reducible refine D.move ?_); refine L.mv U U U ?_) | ((with_reducible refine D.assign ?_); refine L.asg U U U ?_) | ((with_reducible refine D.bin ?_); first | refine L.sb U U U U (by omega) ?_ | refine L.bn U U U U U ?_) | ((with_reducible refine D.call ?_); first | refine L.c2 (nat_c) U U U U ?_ | (apply L.cb2 (hx8) [0] 0 rfl; rfl; rfl; rfl; rfl; rfl; rfl; (focus ((repeat' (first | exact trivial | refine And.intro ?_ ?_ | refine ⟨_, U, _, U, _, U, ?_⟩ | exact VLe.refl _)); done)); rfl; rfl; rfl; rfl) | (apply L.cb2 (a) [0] 0 rfl; rfl; rfl; rfl; rfl; rfl; rfl; (focus ((repeat' (first | exact trivial | refine And.intro ?_ ?_ | refine ⟨_, U, _, U, _, U, ?_⟩ | exact VLe.refl _)); done)); rfl; rfl; rfl; rfl) | (apply L.cb2 (b) [0] 0 rfl; rfl; rfl; rfl; rfl; rfl; rfl; (focus ((repeat' (first | exact trivial | refine And.intro ?_ ?_ | refine ⟨_, U, _, U, _, U, ?_⟩ | exact VLe.refl _)); done)); rfl; rfl; rfl; rfl) | refine L.c2 (lo) U U U U ?_ | (apply L.cb2 (nx) [0] 0 rfl; rfl; rfl; rfl; rfl; rfl; rfl; (focus ((repeat' (first | exact trivial | refine And.intro ?_ ?_ | refine ⟨_, U, _, U, _, U, ?_⟩ | exact VLe.refl _)); done)); rfl; rfl; rfl; rfl) | refine L.c2 (nu) U U U U ?_ | refine L.c2 (c1) U U U U ?_ | refine L.c2 (c2) U U U U ?_ | refine L.c2 (c3) U U U U ?_) | ((with_reducible refine D.alloc ?_); refine L.al U U U ?_) | ((with_reducible refine D.store ?_); refine L.st U U U U U U U U U ?_) | ((with_reducible refine D.ax ?_); first | refine L.bs1 U U U U U (EC.fold_of U) U U ?_ | refine L.bs2 U U U U U (EC.fold_of U) U U U (EC.fold_of U) U U ?_ | refine L.bs3 U U U U U (EC.fold_of U) U U U (EC.fold_of U) U U U (EC.fold_of U) U U ?_) | ((with_reducible refine D.aw ?_); (fail_if_success with_reducible refine D.stopR (id := 29) ?_); (fail_if_success with_reducible refine D.stopS (id := 29) ?_); first | ((with_reducible refine D.blk ?_); refine AW.block ?_) | refine K.sq (AW.regL ?_) | refine K.sq (AW.regD mixed (by kernel_rfl) ?_) | refine K.sq (K.sq ?_) | refine AW.regL ?_ | refine AW.condT U ?_ | refine AW.condF U ?_ | refine AW.condS U (fun h => ?_) (fun h => ?_) | refine AW.skip ?_ | refine AW.ret ?_) | with_reducible refine K.tN ?_ | with_reducible refine K.tR ?_ | with_reducible refine K.bR ?_)
    · (exact K.n2 [some 0] U U U U U (by (repeat' (first | exact trivial | refine And.intro ?_ ?_ | refine ⟨_, U, _, U, _, U, ?_⟩ | exact VLe.of_eq (by simp [Sto.upd, e, Dk.m2, hT]))); done) U (by simp [tupV, V.wk, V.wks, constV, Ty.view, Tm.view, e, Dk.m2, hT]))
    · exact absurd hp' (by simpa using h)
  rw [if_neg k2] at e
  by_cases k3 : kk = 3
  · subst k3
    rw [if_pos rfl] at e
    have a := hH W (g ++ [natT, listT, t]) t hD g3 ht (by simp; omega)
    have b := hH _ g t (hok _ (g ++ [natT, listT, t]) t hD) hg ht (by omega)
    have c := hH _ g listT (hok _ g t (hok _ (g ++ [natT, listT, t]) t hD)) hg small_list (by omega)
    have fa := hF W (g ++ [natT, listT, t]) t g3 ht
    have fb := hF (Dk.tm n W (g ++ [natT, listT, t]) t).2 g t hg ht
    have fc := hF (Dk.tm n (Dk.tm n W (g ++ [natT, listT, t]) t).2 g t).2 g listT hg small_list
    have lo := longer_c g [natT, listT, t] (by simp; omega)
    have en : natT.size = 1 := rfl
    have el : listT.size = 1 := rfl
    have c1 := t_c 2 t [(Dk.tm n W (g ++ [natT, listT, t]) t).1] (by simp; omega) (by omega)
    have c2 := t_c 2 listT [lmT t (Dk.tm n W (g ++ [natT, listT, t]) t).1] (by simp [lmT, Tm.full, Tm.fulls]; omega) (by omega)
    have c3 := t_c 2 natT [lmT listT (lmT t (Dk.tm n W (g ++ [natT, listT, t]) t).1)] (by simp [lmT, Tm.full, Tm.fulls]; omega) (by omega)
    have c4 := t_c 9 t [(Dk.tm n (Dk.tm n W (g ++ [natT, listT, t]) t).2 g t).1, lmT natT (lmT listT (lmT t (Dk.tm n W (g ++ [natT, listT, t]) t).1)), (Dk.tm n (Dk.tm n (Dk.tm n W (g ++ [natT, listT, t]) t).2 g t).2 g listT).1] (by simp [lmT, Tm.full, Tm.fulls]; omega) (by omega)
    repeat' (first | ((with_reducible refine D.nil ?_); first | refine AX.nilL ?_ | refine AX.nilD (by kernel_rfl) ?_) | ((with_reducible refine D.load ?_); refine L.ldb U U U U U U ?_) | ((with_reducible refine D.move ?_); refine L.mv U U U ?_) | ((with_reducible refine D.assign ?_); refine L.asg U U U ?_) | ((with_reducible refine D.bin ?_); first | refine L.sb U U U U (by omega) ?_ | refine L.bn U U U U U ?_) | ((with_reducible refine D.call ?_); first | refine L.c2 (nat_c) U U U U ?_ | refine L.c2 (list_c) U U U U ?_ | (apply L.cb2 (hx8) [0] 0 rfl; rfl; rfl; rfl; rfl; rfl; rfl; (focus ((repeat' (first | exact trivial | refine And.intro ?_ ?_ | refine ⟨_, U, _, U, _, U, ?_⟩ | exact VLe.refl _)); done)); rfl; rfl; rfl; rfl) | (apply L.cb2 (a) [0] 0 rfl; rfl; rfl; rfl; rfl; rfl; rfl; (focus ((repeat' (first | exact trivial | refine And.intro ?_ ?_ | refine ⟨_, U, _, U, _, U, ?_⟩ | exact VLe.refl _)); done)); rfl; rfl; rfl; rfl) | (apply L.cb2 (b) [0] 0 rfl; rfl; rfl; rfl; rfl; rfl; rfl; (focus ((repeat' (first | exact trivial | refine And.intro ?_ ?_ | refine ⟨_, U, _, U, _, U, ?_⟩ | exact VLe.refl _)); done)); rfl; rfl; rfl; rfl) | (apply L.cb2 (c) [0] 0 rfl; rfl; rfl; rfl; rfl; rfl; rfl; (focus ((repeat' (first | exact trivial | refine And.intro ?_ ?_ | refine ⟨_, U, _, U, _, U, ?_⟩ | exact VLe.refl _)); done)); rfl; rfl; rfl; rfl) | refine L.c2 (lo) U U U U ?_ | refine L.c2 (c1) U U U U ?_ | refine L.c2 (c2) U U U U ?_ | refine L.c2 (c3) U U U U ?_ | refine L.c2 (c4) U U U U ?_) | ((with_reducible refine D.alloc ?_); refine L.al U U U ?_) | ((with_reducible refine D.store ?_); refine L.st U U U U U U U U U ?_) | ((with_reducible refine D.ax ?_); first | refine L.bs1 U U U U U (EC.fold_of U) U U ?_ | refine L.bs3 U U U U U (EC.fold_of U) U U U (EC.fold_of U) U U U (EC.fold_of U) U U ?_) | ((with_reducible refine D.aw ?_); (fail_if_success with_reducible refine D.stopR (id := 29) ?_); (fail_if_success with_reducible refine D.stopS (id := 29) ?_); first | ((with_reducible refine D.blk ?_); refine AW.block ?_) | refine K.sq (AW.regL ?_) | refine K.sq (AW.regD mixed (by kernel_rfl) ?_) | refine K.sq (K.sq ?_) | refine AW.regL ?_ | refine AW.condT U ?_ | refine AW.condF U ?_ | refine AW.condS U (fun h => ?_) (fun h => ?_) | refine AW.skip ?_ | refine AW.ret ?_) | with_reducible refine K.tN ?_ | with_reducible refine K.tR ?_ | with_reducible refine K.bR ?_)
    · (exact K.n2 [some 0] U U U U U (by (repeat' (first | exact trivial | refine And.intro ?_ ?_ | refine ⟨_, U, _, U, _, U, ?_⟩ | exact VLe.of_eq (by simp [Sto.upd, e, Dk.m3, hT]))); done) U (by simp [tupV, V.wk, V.wks, constV, Ty.view, Tm.view, e, Dk.m3, hT]))
    · exact absurd hp' (by simpa using h)
  rw [if_neg k3] at e
  by_cases k4 : kk = 4
  · subst k4
    rw [if_pos rfl] at e
    have a := hH D1 g S hD1 hg hSs (by omega)
    have b := hH _ g t (hok _ g S hD1) hg ht (by omega)
    have fa := hF D1 g S hg hSs
    have fb := hF (Dk.tm n D1 g S).2 g t hg ht
    have c1 := n_c 10 [(Dk.tm n D1 g S).1, (Dk.tm n (Dk.tm n D1 g S).2 g t).1] (by simp; omega)
    have c2 := n_c 12 [nT 10 [(Dk.tm n D1 g S).1, (Dk.tm n (Dk.tm n D1 g S).2 g t).1]] (by simp [nT, Tm.full, Tm.fulls, Ty.size, Ty.sizes]; omega)
    repeat' (first | ((with_reducible refine D.nil ?_); first | refine AX.nilL ?_ | refine AX.nilD (by kernel_rfl) ?_) | ((with_reducible refine D.load ?_); refine L.ldb U U U U U U ?_) | ((with_reducible refine D.move ?_); refine L.mv U U U ?_) | ((with_reducible refine D.assign ?_); refine L.asg U U U ?_) | ((with_reducible refine D.bin ?_); first | refine L.sb U U U U (by omega) ?_ | refine L.bn U U U U U ?_) | ((with_reducible refine D.call ?_); first | (apply L.cb2 (hx8) [0] 0 rfl; rfl; rfl; rfl; rfl; rfl; rfl; (focus ((repeat' (first | exact trivial | refine And.intro ?_ ?_ | refine ⟨_, U, _, U, _, U, ?_⟩ | exact VLe.refl _)); done)); rfl; rfl; rfl; rfl) | (apply L.cb2 (tp) [0] 0 rfl; rfl; rfl; rfl; rfl; rfl; rfl; (focus ((repeat' (first | exact trivial | refine And.intro ?_ ?_ | refine ⟨_, U, _, U, _, U, ?_⟩ | exact VLe.refl _)); done)); rfl; rfl; rfl; rfl) | (apply L.cb2 (a) [0] 0 rfl; rfl; rfl; rfl; rfl; rfl; rfl; (focus ((repeat' (first | exact trivial | refine And.intro ?_ ?_ | refine ⟨_, U, _, U, _, U, ?_⟩ | exact VLe.refl _)); done)); rfl; rfl; rfl; rfl) | (apply L.cb2 (b) [0] 0 rfl; rfl; rfl; rfl; rfl; rfl; rfl; (focus ((repeat' (first | exact trivial | refine And.intro ?_ ?_ | refine ⟨_, U, _, U, _, U, ?_⟩ | exact VLe.refl _)); done)); rfl; rfl; rfl; rfl) | refine L.c2 (c1) U U U U ?_ | refine L.c2 (c2) U U U U ?_) | ((with_reducible refine D.alloc ?_); refine L.al U U U ?_) | ((with_reducible refine D.store ?_); refine L.st U U U U U U U U U ?_) | ((with_reducible refine D.ax ?_); first | refine L.bs1 U U U U U (EC.fold_of U) U U ?_ | refine L.bs2 U U U U U (EC.fold_of U) U U U (EC.fold_of U) U U ?_) | ((with_reducible refine D.aw ?_); (fail_if_success with_reducible refine D.stopR (id := 29) ?_); (fail_if_success with_reducible refine D.stopS (id := 29) ?_); first | ((with_reducible refine D.blk ?_); refine AW.block ?_) | refine K.sq (AW.regL ?_) | refine K.sq (AW.regD mixed (by kernel_rfl) ?_) | refine K.sq (K.sq ?_) | refine AW.regL ?_ | refine AW.condT U ?_ | refine AW.condF U ?_ | refine AW.condS U (fun h => ?_) (fun h => ?_) | refine AW.skip ?_ | refine AW.ret ?_) | with_reducible refine K.tN ?_ | with_reducible refine K.tR ?_ | with_reducible refine K.bR ?_)
    · (exact K.n2 [some 0] U U U U U (by (repeat' (first | exact trivial | refine And.intro ?_ ?_ | refine ⟨_, U, _, U, _, U, ?_⟩ | exact VLe.of_eq (by simp [Sto.upd, e, Dk.m4, nT]))); done) U (by simp [tupV, V.wk, V.wks, constV, Ty.view, Tm.view, e, Dk.m4, nT]))
    · exact absurd hp' (by simpa using h)
  rw [if_neg k4] at e
  by_cases k5 : kk = 5
  · subst k5
    rw [if_pos rfl] at e
    repeat' (first | ((with_reducible refine D.nil ?_); refine AX.nilL ?_) | ((with_reducible refine D.move ?_); refine L.mv U U U ?_) | ((with_reducible refine D.assign ?_); refine L.asg U U U ?_) | ((with_reducible refine D.bin ?_); refine L.bn U U U U U ?_) | ((with_reducible refine D.call ?_); first | refine L.lnt U U U U ?_ | (apply L.cb2 (hx8) [0] 0 rfl; rfl; rfl; rfl; rfl; rfl; rfl; (focus ((repeat' (first | exact trivial | refine And.intro ?_ ?_ | refine ⟨_, U, _, U, _, U, ?_⟩ | exact VLe.refl _)); done)); rfl; rfl; rfl; rfl)) | ((with_reducible refine D.aw ?_); (fail_if_success with_reducible refine D.stopR (id := 29) ?_); (fail_if_success with_reducible refine D.stopS (id := 29) ?_); first | ((with_reducible refine D.blk ?_); refine AW.block ?_) | refine K.sq (AW.regL ?_) | refine K.sq (K.sq ?_) | refine AW.regL ?_ | refine AW.condT U ?_ | refine AW.condF U ?_ | refine AW.condS U (fun h => ?_) (fun h => ?_) | refine AW.skip ?_) | with_reducible refine K.tN ?_)
    all_goals first
      | exact absurd hp' (by simpa using h)
      | skip
    refine AW.range g.length (fun m => ∀ j, j < m → isFn g t j = false)
      (fun m => ([(0, .ptr 0 0), (1, .s .ty g), (3, .i depth), (6, .ptr 1 0), (8, .ptr 2 0), (176, .i g.length), (177, .i m)], ⟨3, [(0, .var W.cells), (1, .var t.view), (2, .var [.i 0, .i 0, .i 0, .slice .nil (.t .ty []), .slice .nil (.t .tm [])])]⟩))
      (by omega) (fun m => rfl) (fun m => rfl) U (by intro j hj; omega) (Weak.mk [some 0, some 1, some 2] _ _ _ U U U U (by (repeat' (first | exact trivial | refine And.intro ?_ ?_ | refine ⟨_, U, _, U, ?_⟩ | exact VLe.refl _)); done) (by (repeat' (first | exact trivial | refine And.intro ?_ ?_ | refine ⟨_, U, _, U, _, U, ?_⟩ | exact VLe.refl _)); done)) ?_ ?_
    · intro m hm hP
      have hm2 : g.length - 1 - m < g.length := by omega
      have hat : at0 g (g.length - 1 - m) = g[g.length - 1 - m] := at0_lt hm2
      have hgs : (g[g.length - 1 - m]).small := hg _ (List.getElem_mem hm2)
      have hstep : ∀ b, isFn g t m = b → b = false → ∀ j, j < m + 1 → isFn g t j = false := fun b hb hf j hj => by
        by_cases hjm : j = m
        · rw [hjm, hb, hf]
        · exact hP j (by omega)
      have hfn : isFn g t m = ((g[g.length - 1 - m]).kind == 4 && decide (at0 (g[g.length - 1 - m]).args 1 = t)) := by simp only [isFn, hat]
      by_cases hk4 : (g[g.length - 1 - m]).kind = 4
      · obtain ⟨p, q, hpq⟩ := Ty.args_two hgs.1 (.inr hk4)
        have l0 : 0 < (g[g.length - 1 - m]).args.length := by rw [hpq]; simp
        have l1 : 1 < (g[g.length - 1 - m]).args.length := by rw [hpq]; simp
        have sm := sameTy_c _ ((g[g.length - 1 - m]).args[1]) t (Nat.le_refl _) (by
          have h1 := lsum_mem Ty.size (List.getElem_mem l1)
          have h2 := (g[g.length - 1 - m]).size_eq
          have h3 := hgs.2
          omega)
        have ha1 : at0 (g[g.length - 1 - m]).args 1 = (g[g.length - 1 - m]).args[1] := at0_lt l1
        have ha0 : at0 (g[g.length - 1 - m]).args 0 = (g[g.length - 1 - m]).args[0] := at0_lt l0
        rw [ha1, beq_iff_eq.2 hk4, Bool.true_and] at hfn
        have sm0 : ((g[g.length - 1 - m]).args[0]).small := by
          have h1 := lsum_mem Ty.size (List.getElem_mem l0)
          have h2 := (g[g.length - 1 - m]).size_eq
          have h3 := hgs.2
          have h4 := hgs.1
          rw [Ty.shape_eq, Bool.and_eq_true] at h4
          exact ⟨List.all_eq_true.1 h4.2 _ (List.getElem_mem l0), by omega⟩
        have a := hH W g ((g[g.length - 1 - m]).args[0]) hD hg sm0 (by omega)
        have fa := hF W g ((g[g.length - 1 - m]).args[0]) hg sm0
        have vc := var_c m
        have c1 := n_c 3 [vT m, (Dk.tm n W g ((g[g.length - 1 - m]).args[0])).1] (by simp [vT, Tm.full, Tm.fulls, Ty.size, Ty.sizes]; omega)
        repeat' (first | ((with_reducible refine D.nil ?_); refine AX.nilL ?_) | ((with_reducible refine D.move ?_); refine L.mv U U U ?_) | ((with_reducible refine D.assign ?_); refine L.asg U U U ?_) | ((with_reducible refine D.bin ?_); refine L.sb U U U U (by omega) ?_) | ((with_reducible refine D.call ?_); refine L.lnt U U U U ?_) | ((with_reducible refine D.aw ?_); (fail_if_success with_reducible refine D.stopR (id := 29) ?_); (fail_if_success with_reducible refine D.stopS (id := 29) ?_); refine K.sq (AW.regL ?_)) | with_reducible refine K.tN ?_)
        refine L.ixt (g.length - 1 - m) rfl rfl rfl rfl (by omega) rfl rfl hm2 ?_
        repeat' (first | ((with_reducible refine D.nil ?_); first | refine AX.nilL ?_ | refine AX.nilD (by kernel_rfl) ?_) | ((with_reducible refine D.load ?_); first | refine L.ldb U U U U U U ?_ | refine L.lda U U U U U ?_ | refine AX.sk U U ?_) | ((with_reducible refine D.move ?_); refine L.mv U U U ?_) | ((with_reducible refine D.fieldAddr ?_); first | refine L.fab U U U U U ?_ | refine AX.sk U U ?_ | ((fail_if_success refine AX.wt U ?_); refine AX.gs U U (fun _ => trivial) (fun h => ?_) (fun h => ?_))) | ((with_reducible refine D.bin ?_); first | refine L.sb U U U U (by omega) ?_ | refine L.bn U U U U U ?_) | ((with_reducible refine D.call ?_); first | refine L.c2 (sm) U U U U ?_ | refine L.c2 (vc) U U U U ?_ | (apply L.cb2 (a) [0] 0 rfl; rfl; rfl; rfl; rfl; rfl; rfl; (focus ((repeat' (first | exact trivial | refine And.intro ?_ ?_ | refine ⟨_, U, _, U, _, U, ?_⟩ | exact VLe.refl _)); done)); rfl; rfl; rfl; rfl) | refine L.c2 (c1) U U U U ?_ | refine AX.sk U U ?_) | ((with_reducible refine D.alloc ?_); refine L.al U U U ?_) | ((with_reducible refine D.store ?_); refine L.st U U U U U U U U U ?_) | ((with_reducible refine D.indexAddr ?_); first | refine L.ixt _ U U U U U U U (by first | assumption | (simp at *; omega)) ?_ | refine AX.sk U U ?_) | ((with_reducible refine D.pick ?_); refine L.pk U U U U ?_) | ((with_reducible refine D.ax ?_); refine L.bs2 U U U U U (EC.fold_of U) U U U (EC.fold_of U) U U ?_) | ((with_reducible refine D.aw ?_); (fail_if_success with_reducible refine D.stopR (id := 29) ?_); (fail_if_success with_reducible refine D.stopS (id := 29) ?_); first | refine K.sq (AW.regD mixed (by kernel_rfl) ?_) | refine AW.condF U ?_ | refine AW.condS U (fun h => ?_) (fun h => ?_) | refine AW.skip ?_ | refine AW.ret ?_) | with_reducible refine K.tN ?_ | with_reducible refine K.bN ?_ | with_reducible refine K.tR ?_ | with_reducible refine K.bR ?_ | with_reducible refine K.gR ?_)
        · have hf : isFn g t m = true := hfn.trans h
          have e2 : W.m5 (Dk.tm n) (decide (2 ≤ n)) g t = (apT (vT m) (Dk.tm n W g ((g[g.length - 1 - m]).args[0])).1, (Dk.tm n W g ((g[g.length - 1 - m]).args[0])).2) := by unfold Dk.m5; rw [findF_at hm hP hf]; simp only [hat, ha0]
          rw [e2] at e
          (exact K.n2 [some 0] U U U U U (by (repeat' (first | exact trivial | refine And.intro ?_ ?_ | refine ⟨_, U, _, U, _, U, ?_⟩ | exact VLe.of_eq (by simp [Sto.upd, e, apT, vT]))); done) U (by simp [tupV, V.wk, V.wks, constV, Ty.view, Tm.view, e, apT, vT]))
        · exact ⟨rfl, hstep _ hfn h, (Weak.mk [some 0, some 1, some 2] _ _ _ U U U U (by (repeat' (first | exact trivial | refine And.intro ?_ ?_ | refine ⟨_, U, _, U, ?_⟩ | exact VLe.refl _)); done) (by (repeat' (first | exact trivial | refine And.intro ?_ ?_ | refine ⟨_, U, _, U, _, U, ?_⟩ | exact VLe.refl _)); done))⟩
        · exact absurd hk4 (by simpa using h)
      · repeat' (first | ((with_reducible refine D.nil ?_); refine AX.nilL ?_) | ((with_reducible refine D.move ?_); refine L.mv U U U ?_) | ((with_reducible refine D.assign ?_); refine L.asg U U U ?_) | ((with_reducible refine D.bin ?_); refine L.sb U U U U (by omega) ?_) | ((with_reducible refine D.call ?_); refine L.lnt U U U U ?_) | ((with_reducible refine D.aw ?_); (fail_if_success with_reducible refine D.stopR (id := 29) ?_); (fail_if_success with_reducible refine D.stopS (id := 29) ?_); refine K.sq (AW.regL ?_)) | with_reducible refine K.tN ?_)
        refine L.ixt (g.length - 1 - m) rfl rfl rfl rfl (by omega) rfl rfl hm2 ?_
        repeat' (first | ((with_reducible refine D.nil ?_); first | refine AX.nilL ?_ | refine AX.nilD (by kernel_rfl) ?_) | ((with_reducible refine D.load ?_); first | refine L.ldb U U U U U U ?_ | refine L.lda U U U U U ?_ | refine AX.sk U U ?_) | ((with_reducible refine D.move ?_); refine L.mv U U U ?_) | ((with_reducible refine D.fieldAddr ?_); first | refine L.fab U U U U U ?_ | refine AX.sk U U ?_ | ((fail_if_success refine AX.wt U ?_); refine AX.gs U U (fun _ => trivial) (fun h => ?_) (fun h => ?_))) | ((with_reducible refine D.bin ?_); refine L.bn U U U U U ?_) | ((with_reducible refine D.call ?_); refine AX.sk U U ?_) | ((with_reducible refine D.alloc ?_); refine L.al U U U ?_) | ((with_reducible refine D.store ?_); refine L.st U U U U U U U U U ?_) | ((with_reducible refine D.indexAddr ?_); first | refine L.ixt _ U U U U U U U (by (simp at *; omega)) ?_ | refine AX.sk U U ?_) | ((with_reducible refine D.pick ?_); refine L.pk U U U U ?_) | ((with_reducible refine D.aw ?_); (fail_if_success with_reducible refine D.stopR (id := 29) ?_); (fail_if_success with_reducible refine D.stopS (id := 29) ?_); first | refine K.sq (AW.regD mixed (by kernel_rfl) ?_) | refine AW.condF U ?_ | refine AW.skip ?_) | with_reducible refine K.tN ?_ | with_reducible refine K.bN ?_)
        · exact absurd (by simpa using h) hk4
        · have hk4' : ((g[g.length - 1 - m]).kind == 4) = false := by simpa using hk4
          rw [hk4', Bool.false_and] at hfn
          exact ⟨rfl, hstep _ hfn U, (Weak.mk [some 0, some 1, some 2] _ _ _ U U U U (by (repeat' (first | exact trivial | refine And.intro ?_ ?_ | refine ⟨_, U, _, U, ?_⟩ | exact VLe.refl _)); done) (by (repeat' (first | exact trivial | refine And.intro ?_ ?_ | refine ⟨_, U, _, U, _, U, ?_⟩ | exact VLe.refl _)); done))⟩
    · intro hP
      repeat' (first | with_reducible refine K.tN ?_ | with_reducible refine K.bN ?_)
      have e2 : W.m5 (Dk.tm n) (decide (2 ≤ n)) g t = W.fin (Dk.tm n) (decide (2 ≤ n)) g t := by unfold Dk.m5; rw [findF_none' hP]
      rw [e, e2]; exact AW.weak (Weak.mk [some 0, some 1, some 2] _ _ _ U U U U (by (repeat' (first | exact trivial | refine And.intro ?_ ?_ | refine ⟨_, U, _, U, ?_⟩ | exact VLe.refl _)); done) (by (repeat' (first | exact trivial | refine And.intro ?_ ?_ | refine ⟨_, U, _, U, _, U, ?_⟩ | exact VLe.refl _)); done)) (fin_c n H hn depth hdep W hD g t hg ht h0 hl)
  rw [if_neg k5] at e
  have n0 : (kk == 0) = false := by simpa using k0
  repeat' (first | ((with_reducible refine D.nil ?_); refine AX.nilL ?_) | ((with_reducible refine D.move ?_); refine L.mv U U U ?_) | ((with_reducible refine D.assign ?_); refine L.asg U U U ?_) | ((with_reducible refine D.bin ?_); refine L.bn U U U U U ?_) | ((with_reducible refine D.call ?_); first | refine L.lnt U U U U ?_ | (apply L.cb2 (hx8) [0] 0 rfl; rfl; rfl; rfl; rfl; rfl; rfl; (focus ((repeat' (first | exact trivial | refine And.intro ?_ ?_ | refine ⟨_, U, _, U, _, U, ?_⟩ | exact VLe.refl _)); done)); rfl; rfl; rfl; rfl)) | ((with_reducible refine D.aw ?_); (fail_if_success with_reducible refine D.stopR (id := 29) ?_); (fail_if_success with_reducible refine D.stopS (id := 29) ?_); first | ((with_reducible refine D.blk ?_); refine AW.block ?_) | refine K.sq (AW.regL ?_) | refine K.sq (AW.regD mixed (by kernel_rfl) ?_) | refine K.sq (K.sq ?_) | refine AW.regL ?_ | refine AW.condS U (fun h => ?_) (fun h => ?_) | refine AW.skip ?_) | with_reducible refine K.tN ?_ | with_reducible refine K.bN ?_)
  all_goals first
    | exact absurd hp' (by simpa using h)
    | exact absurd (by simpa using h) k0
    | exact absurd (by simpa using h) k1
    | exact absurd (by simpa using h) k2
    | exact absurd (by simpa using h) k3
    | exact absurd (by simpa using h) k4
    | exact absurd (by simpa using h) k5
    | (rw [e]; exact AW.weak (Weak.mk [some 0, some 1, some 2] _ _ _ U U U U (by (repeat' (first | exact trivial | refine And.intro ?_ ?_ | refine ⟨_, U, _, U, ?_⟩ | exact VLe.refl _)); done) (by (repeat' (first | exact trivial | refine And.intro ?_ ?_ | refine ⟨_, U, _, U, _, U, ?_⟩ | exact VLe.refl _)); done)) (fin_c n H hn depth hdep W hD g t hg ht h0 hl))
theorem gen_c (n : Nat) (H : HT n) (hn : n ≤ 7) (depth : Int) (hdep : depth = (n : Int) - 1) (d : Dk) (hd : d.ok) (g : List Ty) (t : Ty) (hg : smalls g) (ht : t.small) (h0 : n = 0 → t.size = 1) (hl : g.length + 3 * (n + 1) ≤ 10000) :
    AC E 11 [.ptr 0 0, .s .ty g, .agg t.view, .i depth] ⟨1, [(0, .var d.cells)]⟩ (.agg (d.gen (Dk.tm n) (decide (2 ≤ n)) g t).1.view) ⟨1, [(0, .var (d.gen (Dk.tm n) (decide (2 ≤ n)) g t).2.cells)]⟩ := by
  have hsum := smalls_sum hg
  have hvl : (varsT g t).length ≤ g.length := by
    simp only [varsT, List.length_map]
    have := List.length_filter_le (fun i => decide (g[g.length - 1 - i]? = some t)) (List.range g.length)
    simpa using this
  have hv := vars_c g t (by omega)
  have hx3 := next_c d 3 hd (by omega)
  have hd3 := Dk.next_ok hd 3
  have hxl := next_c (d.next 3).2 (varsT g t).length hd3 (by omega)
  have m1 := mid_c n H hn depth hdep d hd g t hg ht h0 hl
  have m2 := mid_c n H hn depth hdep (d.next 3).2 hd3 g t hg ht h0 hl
  have hvar := var_c
  by_cases he : varsT g t = []
  · have e : d.gen (Dk.tm n) (decide (2 ≤ n)) g t = d.mid (Dk.tm n) (decide (2 ≤ n)) g t := by unfold Dk.gen; rw [if_pos he]
    have hl0 : ¬ (((varsT g t).length : Int) > 0) := by rw [he]; simp
    refine AC.mk Tryz.func11 rfl rfl rfl rfl rfl (Nat.le_of_ble_eq_true rfl) ?_
    repeat' (first | ((with_reducible refine D.nil ?_); refine AX.nilL ?_) | ((with_reducible refine D.load ?_); refine L.ldb U U U U U U ?_) | ((with_reducible refine D.move ?_); first | refine L.mv U U U ?_ | refine AX.sk U U ?_ | ((fail_if_success refine AX.wt U ?_); refine AX.gs U U (fun _ => trivial) (fun h => ?_) (fun h => ?_))) | ((with_reducible refine D.assign ?_); refine L.asg U U U ?_) | ((with_reducible refine D.bin ?_); first | refine L.bn U U U U U ?_ | refine AX.sk U U ?_) | ((with_reducible refine D.call ?_); first | refine L.lnt U U U U ?_ | refine L.c2 (hv) U U U U ?_ | (apply L.cb2 (hx3) [0] 0 rfl; rfl; rfl; rfl; rfl; rfl; rfl; (focus ((repeat' (first | exact trivial | refine And.intro ?_ ?_ | refine ⟨_, U, _, U, _, U, ?_⟩ | exact VLe.refl _)); done)); rfl; rfl; rfl; rfl) | refine AX.sk U U ?_) | ((with_reducible refine D.box ?_); refine L.bx U U U U ?_) | ((with_reducible refine D.alloc ?_); refine L.al U U U ?_) | ((with_reducible refine D.pick ?_); refine L.pk U U U U ?_) | ((with_reducible refine D.aw ?_); (fail_if_success with_reducible refine D.stopR (id := 4) ?_); (fail_if_success with_reducible refine D.stopS (id := 4) ?_); first | refine K.sq (AW.regL ?_) | refine K.sq (K.sq ?_) | refine AW.regL ?_ | refine AW.condF U ?_ | refine AW.condS U (fun h => ?_) (fun h => ?_) | refine AW.skip ?_) | with_reducible refine K.tN ?_)
    · rename_i h1; exact absurd (by simpa using h1) hl0
    · rename_i h1; exact absurd (by simpa using h1) hl0
    · rw [e]; exact AW.weak (Weak.mk [some 0, some 1, some 2] _ _ _ U U U U (by (repeat' (first | exact trivial | refine And.intro ?_ ?_ | refine ⟨_, U, _, U, ?_⟩ | exact VLe.refl _)); done) (by (repeat' (first | exact trivial | refine And.intro ?_ ?_ | refine ⟨_, U, _, U, _, U, ?_⟩ | exact VLe.refl _)); done)) m1
  · have e : d.gen (Dk.tm n) (decide (2 ≤ n)) g t = if 0 < (d.next 3).1 then (vT ((varsT g t).getD ((d.next 3).2.next (varsT g t).length).1.toNat 0), ((d.next 3).2.next (varsT g t).length).2) else (d.next 3).2.mid (Dk.tm n) (decide (2 ≤ n)) g t := by unfold Dk.gen; rw [if_neg he]
    have hlp : 0 < (varsT g t).length := List.length_pos_iff.2 he
    have hl0 : ((varsT g t).length : Int) > 0 := by omega
    have hbl := Dk.next_bd (d.next 3).2 (varsT g t).length hl0
    have hlt : ((d.next 3).2.next (varsT g t).length).1.toNat < (varsT g t).length := by omega
    refine AC.mk Tryz.func11 rfl rfl rfl rfl rfl (Nat.le_of_ble_eq_true rfl) ?_
    repeat' (first | ((with_reducible refine D.nil ?_); refine AX.nilL ?_) | ((with_reducible refine D.load ?_); refine L.ldb U U U U U U ?_) | ((with_reducible refine D.move ?_); first | refine L.mv U U U ?_ | refine AX.sk U U ?_ | ((fail_if_success refine AX.wt U ?_); refine AX.gs U U (fun _ => trivial) (fun h => ?_) (fun h => ?_))) | ((with_reducible refine D.assign ?_); refine L.asg U U U ?_) | ((with_reducible refine D.bin ?_); first | refine L.bn U U U U U ?_ | refine AX.sk U U ?_) | ((with_reducible refine D.call ?_); first | refine L.lnt U U U U ?_ | refine L.c2 (hv) U U U U ?_ | (apply L.cb2 (hx3) [0] 0 rfl; rfl; rfl; rfl; rfl; rfl; rfl; (focus ((repeat' (first | exact trivial | refine And.intro ?_ ?_ | refine ⟨_, U, _, U, _, U, ?_⟩ | exact VLe.refl _)); done)); rfl; rfl; rfl; rfl) | (apply L.cb2 (hxl) [0] 0 rfl; rfl; rfl; rfl; rfl; rfl; rfl; (focus ((repeat' (first | exact trivial | refine And.intro ?_ ?_ | refine ⟨_, U, _, U, _, U, ?_⟩ | exact VLe.refl _)); done)); rfl; rfl; rfl; rfl) | refine AX.sk U U ?_) | ((with_reducible refine D.box ?_); refine L.bx U U U U ?_) | ((with_reducible refine D.alloc ?_); refine L.al U U U ?_) | ((with_reducible refine D.pick ?_); refine L.pk U U U U ?_) | ((with_reducible refine D.aw ?_); (fail_if_success with_reducible refine D.stopR (id := 4) ?_); (fail_if_success with_reducible refine D.stopS (id := 4) ?_); first | refine K.sq (AW.regL ?_) | refine K.sq (K.sq ?_) | refine AW.regL ?_ | refine AW.condF U ?_ | refine AW.condS U (fun h => ?_) (fun h => ?_) | refine AW.skip ?_) | with_reducible refine K.tN ?_)
    · refine L.ixt ((d.next 3).2.next (varsT g t).length).1.toNat rfl rfl rfl rfl (by omega) rfl rfl hlt ?_
      have eg : (varsT g t).getD ((d.next 3).2.next (varsT g t).length).1.toNat 0 = (varsT g t)[((d.next 3).2.next (varsT g t).length).1.toNat] := by simp [List.getD_eq_getElem?_getD, hlt]
      rw [if_pos (by simpa using h), eg] at e
      repeat' (first | ((with_reducible refine D.nil ?_); refine AX.nilL ?_) | ((with_reducible refine D.load ?_); refine L.lda U U U U U ?_) | ((with_reducible refine D.call ?_); refine L.c2 (hvar _) U U U U ?_) | ((with_reducible refine D.store ?_); refine L.st U U U U U U U U U ?_) | ((with_reducible refine D.aw ?_); refine AW.ret ?_) | with_reducible refine K.tN ?_ | with_reducible refine K.tR ?_)
      (exact K.n2 [some 0] U U U U U (by (repeat' (first | exact trivial | refine And.intro ?_ ?_ | refine ⟨_, U, _, U, _, U, ?_⟩ | exact VLe.of_eq (by simp [Sto.upd, e, vT]))); done) U (by simp [tupV, V.wk, V.wks, constV, Ty.view, Tm.view, e, vT]))
    · rw [e, if_neg (by simpa using h)]; exact AW.weak (Weak.mk [some 0, some 1, some 2] _ _ _ U U U U (by (repeat' (first | exact trivial | refine And.intro ?_ ?_ | refine ⟨_, U, _, U, ?_⟩ | exact VLe.refl _)); done) (by (repeat' (first | exact trivial | refine And.intro ?_ ?_ | refine ⟨_, U, _, U, _, U, ?_⟩ | exact VLe.refl _)); done)) m2
    · exact absurd hl0 (by simpa using h)
theorem term_c : ∀ n, n ≤ 8 → HT n
  | 0, _ => fun d g t k _ _ _ _ h => by omega
  | n + 1, hn => fun d g t k hk hd hg ht _ h1 hl => gen_c n (term_c n (by omega)) (by omega) k (by omega) d hd g t hg ht (by omega) hl
end Go.Ab
namespace Go.Ab
open Go Go.Proofs
set_option maxRecDepth 100000
set_option maxHeartbeats 4000000
set_option linter.all false
theorem sameTm_r (x : Tm) (h : x.full < 1099511627776) : PC E 23 [.agg x.view, .agg x.view] (.bool true) := by
  have := sameTm_c _ x x (Nat.le_refl _) h
  simpa using this
theorem sane03_c : PC E 6 [] (.bool true) := by
  have hv0 := var_c 0
  have hv1 := var_c 1
  have hv3 := var_c 3
  have hv4 := var_c 4
  have hs := n_c 5 [vT 0] (by decide)
  have hz := n_c 4 [] (by decide)
  have hsz := n_c 5 [zT] (by decide)
  have ht1 := t_c 2 natT [vT 1] (by decide) (by decide)
  have ht4 := t_c 2 natT [vT 4] (by decide) (by decide)
  have p1 := substPut_c (sT (vT 0)) 0 zT (by decide) (by decide)
  have p2 := substPut_c (lmT natT (vT 1)) 0 (vT 3) (by decide) (by decide)
  have e1 : putErr (sT (vT 0)) 0 zT = 0 := by decide
  have e2 : putErr (lmT natT (vT 1)) 0 (vT 3) = 0 := by decide
  have r1 : (sT (vT 0)).re (putG 0 zT) 0 = sT zT := by decide
  have r2 : (lmT natT (vT 1)).re (putG 0 (vT 3)) 0 = lmT natT (vT 4) := by decide
  rw [e1, if_pos rfl, r1] at p1
  rw [e2, if_pos rfl, r2] at p2
  have q1 := sameTm_r (sT zT) (by decide)
  have q2 := sameTm_r (lmT natT (vT 4)) (by decide)
  refine AC.mk Tryz.func6 rfl rfl rfl rfl rfl (Nat.le_of_ble_eq_true rfl) ?_
  repeat' (first | ((with_reducible refine D.nil ?_); first | refine AX.nilL ?_ | refine AX.nilD (by kernel_rfl) ?_) | ((with_reducible refine D.load ?_); refine L.ldb U U U U U U ?_) | ((with_reducible refine D.move ?_); refine L.mv U U U ?_) | ((with_reducible refine D.assign ?_); refine L.asg U U U ?_) | ((with_reducible refine D.bin ?_); refine L.bn U U U U U ?_) | ((with_reducible refine D.call ?_); first | refine L.c2 (hv0) U U U U ?_ | refine L.c2 (hv1) U U U U ?_ | refine L.c2 (hv3) U U U U ?_ | refine L.c2 (hv4) U U U U ?_ | refine L.c2 (nat_c) U U U U ?_ | refine L.c2 (hs) U U U U ?_ | refine L.c2 (hz) U U U U ?_ | refine L.c2 (hsz) U U U U ?_ | refine L.c2 (ht1) U U U U ?_ | refine L.c2 (ht4) U U U U ?_ | refine L.c2 (p1) U U U U ?_ | refine L.c2 (p2) U U U U ?_ | refine L.c2 (q1) U U U U ?_ | refine L.c2 (q2) U U U U ?_) | ((with_reducible refine D.extract ?_); refine L.ex U U U U ?_) | ((with_reducible refine D.alloc ?_); refine L.al U U U ?_) | ((with_reducible refine D.store ?_); refine L.st U U U U U U U U U ?_) | ((with_reducible refine D.pick ?_); refine L.pk U U U U ?_) | ((with_reducible refine D.ax ?_); refine L.bs1 U U U U U (EC.fold_of U) U U ?_) | ((with_reducible refine D.aw ?_); first | refine K.sq (AW.regL ?_) | refine K.sq (AW.regD mixed (by kernel_rfl) ?_) | refine AW.ret ?_) | with_reducible refine K.tN ?_ | with_reducible refine K.r1 (by with_unfolding_all rfl) (by with_unfolding_all rfl) ?_)
  all_goals rfl
end Go.Ab
namespace Go.Ab
open Go Go.Proofs
set_option maxRecDepth 100000
set_option maxHeartbeats 4000000
set_option linter.all false
theorem few_t (l : List Int) (h : l.length ≤ 500) : PC E 7 [.s .int l] (.bool true) := by
  have := few_c l
  rwa [decide_eq_true h] at this
theorem few_f (l : List Int) (h : ¬ l.length ≤ 500) : PC E 7 [.s .int l] (.bool false) := by
  have := few_c l
  rwa [decide_eq_false h] at this
theorem type1_c (d : Dk) (h : d.ok) : AC E 12 [.ptr 0 0, .i 1] ⟨1, [(0, .var d.cells)]⟩ (.agg (d.type 1).1.view) ⟨1, [(0, .var (d.type 1).2.cells)]⟩ := type_c 1 1 d (by omega) (by omega) (by omega) h
theorem deck_ok {l : List Int} (h : l.length ≤ 500) : (Dk.mk l 0).ok := ⟨Nat.zero_le _, by simp only; omega⟩
end Go.Ab
namespace Go.Ab
open Go Go.Proofs
set_option maxRecDepth 100000
set_option maxHeartbeats 4000000
set_option linter.all false
abbrev CT (t : Tm) (g : List Ty) : Prop := PC E 201 [.s .sz (g.map ofT), .agg t.view] (.tup [.agg (ofT (t.inf g).1).view, .i (t.inf g).2])
end Go.Ab
namespace Go.Ab
open Go Go.Proofs
set_option maxRecDepth 100000
set_option maxHeartbeats 4000000
set_option linter.all false
def lamsT (b : Tm) (l : List Ty) : Tm := l.foldr lmT b
def dflS (t : Ty) : Tm := if t.err = 0 then dfl t else noTm
end Go.Ab
namespace Go.Ab
open Go Go.Proofs
set_option maxRecDepth 100000
set_option maxHeartbeats 4000000
set_option linter.all false
def nearG (b : Bool) (l : List (Int × Int)) : Bool := b && l.all fun p => decide (p.1 ≤ 268435456)
end Go.Ab
