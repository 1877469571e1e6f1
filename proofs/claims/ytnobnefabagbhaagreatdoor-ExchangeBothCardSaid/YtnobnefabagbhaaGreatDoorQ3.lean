/- Part 3 of our proof: a logic over the model's code, contracts of the functions, and plain laws. -/
import Derived.Test.YtnobnefabagbhaaGreatDoorQ2
import Derived.Test.YtnobnefabagbhaaGreatDoorProg
import Derived.KernelRfl
import Derived.Attr
import Derived.Lib.ItoaLen
import Derived.Test.YtnobnefabagbhaaGreatDoorQ1
import Derived.Shelf.Strconv.AppendUint10
import Derived.Lib.IndexLaws
set_option linter.unusedVariables false
set_option linter.unusedSimpArgs false
set_option linter.unusedSectionVars false
set_option maxRecDepth 100000
section
/- The table of this translation's types, printed by gen_tab.py, and its proof by the kernel. -/
namespace Go.Proofs.YtnobnefabagbhaaGreatDoor.Q
open Go Go.Q
def rEs : List (Nat × (Nat × Nat × Bool)) := [(22, 45, 3, true), (23, 9, 1, false), (43, 109, 7, true), (64, 5, 1, false), (90, 22, 1, false)]
def rFo : List (Nat × List (Nat × (Nat × Nat × Bool))) := [(7, [(0, 0, 1, false), (1, 1, 1, false), (2, 2, 1, false), (3, 3, 1, false)]), (8, [(0, 0, 1, false), (1, 1, 1, false), (2, 2, 1, false), (3, 3, 1, false)]), (13, [(0, 0, 1, false), (1, 1, 1, false)]), (14, [(0, 0, 1, false), (1, 1, 1, false)]), (18, [(0, 0, 1, false)]), (19, [(0, 0, 1, false)]), (25, [(0, 0, 1, false), (1, 1, 1, false), (2, 2, 1, false), (3, 3, 1, false), (4, 4, 1, false)]), (26, [(0, 0, 1, false), (1, 1, 1, false), (2, 2, 1, false), (3, 3, 1, false), (4, 4, 1, false)]), (44, [(0, 0, 1, false), (1, 1, 1, false), (2, 2, 1, false)]), (45, [(0, 0, 1, false), (1, 1, 1, false), (2, 2, 1, false)]), (108, [(0, 0, 1, false), (1, 1, 1, false), (2, 2, 1, false), (3, 3, 1, false), (4, 4, 1, false), (5, 5, 1, false), (6, 6, 1, false)]), (109, [(0, 0, 1, false), (1, 1, 1, false), (2, 2, 1, false), (3, 3, 1, false), (4, 4, 1, false), (5, 5, 1, false), (6, 6, 1, false)]), (147, [(0, 0, 1, false), (1, 1, 1, false)]), (148, [(0, 0, 1, false), (1, 1, 1, false)]), (149, [(0, 0, 2, true)]), (150, [(0, 0, 2, true)]), (200, [(0, 0, 1, false), (1, 1, 1, false)]), (201, [(0, 0, 1, false), (1, 1, 1, false)]), (205, [(0, 0, 1, false), (1, 1, 1, false), (2, 2, 1, false), (3, 3, 1, false)]), (206, [(0, 0, 1, false), (1, 1, 1, false), (2, 2, 1, false), (3, 3, 1, false)]), (216, [(0, 0, 1, false), (1, 1, 1, false), (2, 2, 1, false), (3, 3, 1, false), (4, 4, 1, false), (5, 5, 1, false), (6, 6, 1, false), (7, 7, 1, false), (8, 8, 1, false), (9, 9, 1, false), (10, 10, 1, false)]), (217, [(0, 0, 1, false), (1, 1, 1, false), (2, 2, 1, false), (3, 3, 1, false), (4, 4, 1, false), (5, 5, 1, false), (6, 6, 1, false), (7, 7, 1, false), (8, 8, 1, false), (9, 9, 1, false), (10, 10, 1, false)])]
def rLd : List (Nat × (Option Nat)) := [(1, none), (2, none), (3, none), (4, none), (5, none), (6, none), (7, some 4), (8, some 4), (9, none), (10, none), (11, none), (12, none), (13, some 2), (14, some 2), (15, none), (16, none), (17, none), (18, some 1), (19, some 1), (20, none), (21, none), (22, none), (23, none), (24, none), (25, some 5), (26, some 5), (27, none), (28, none), (29, none), (30, none), (32, none), (34, none), (35, none), (36, none), (37, none), (38, none), (40, none), (41, none), (42, none), (43, none), (44, some 3), (45, some 3), (47, none), (48, none), (49, none), (50, none), (51, none), (52, none), (53, none), (54, none), (55, none), (56, none), (57, none), (58, none), (59, none), (60, none), (61, none), (62, none), (63, none), (64, none), (66, none), (67, none), (68, none), (69, none), (70, none), (72, none), (73, none), (74, none), (75, none), (76, none), (77, none), (78, none), (79, none), (80, none), (81, none), (82, none), (83, none), (84, none), (85, none), (86, none), (87, none), (88, none), (89, none), (90, none), (91, none), (92, none), (93, none), (94, none), (95, none), (96, none), (98, none), (99, none), (100, none), (101, none), (102, none), (103, none), (105, none), (106, none), (107, none), (108, some 7), (109, some 7), (110, none), (111, none), (112, none), (113, none), (114, none), (115, none), (116, none), (117, none), (118, none), (119, none), (120, none), (121, none), (122, none), (123, none), (124, none), (125, none), (126, none), (127, none), (128, none), (129, none), (130, none), (131, none), (132, none), (133, none), (135, none), (136, none), (137, none), (138, none), (140, none), (141, none), (142, none), (143, none), (144, none), (145, none), (146, none), (147, some 2), (148, some 2), (149, some 2), (150, some 2), (151, none), (152, none), (153, none), (154, none), (155, none), (156, none), (157, none), (158, none), (159, none), (160, none), (161, none), (162, none), (163, none), (164, none), (165, none), (166, none), (167, none), (168, none), (169, none), (171, none), (172, none), (173, none), (174, none), (175, some 24), (176, none), (178, none), (179, none), (180, none), (181, none), (182, none), (184, none), (185, none), (186, some 20), (187, some 65), (188, none), (189, none), (191, none), (192, none), (194, none), (196, none), (197, some 32), (198, some 64), (199, some 256), (200, some 2), (201, some 2), (202, some 32), (204, none), (205, some 4), (206, some 4), (207, some 0), (208, some 0), (209, some 0), (210, none), (211, none), (212, none), (213, none), (214, none), (215, none), (216, some 11), (217, some 11)]
def rIk : List (Nat × IntKind) := [(2, .i64), (3, .i64), (5, .u8), (6, .u8), (12, .u64), (21, .i32), (24, .i64), (118, .u64), (133, .i64), (142, .u32), (144, .u64), (161, .u64), (211, .u8), (212, .u8), (214, .i32), (215, .i32)]
def rSt : List Nat := [9, 10, 11]
def rBt : List Nat := [4]
def rB1 : List Nat := [5, 6, 211, 212]
def rZr : List (Nat × V) := [(1, .nilfunc), (2, .int .i64 0), (3, .int .i64 0), (4, .bool false), (5, .int .u8 0), (6, .int .u8 0), (7, .agg [.int .i64 0, .int .i64 0, .bool false, .int .u8 0]), (8, .agg [.int .i64 0, .int .i64 0, .bool false, .int .u8 0]), (9, .str []), (10, .str []), (11, .str []), (12, .int .u64 0), (13, .agg [.str [], .int .u64 0]), (14, .agg [.str [], .int .u64 0]), (15, .nilptr), (16, .nilptr), (17, .nilptr), (18, .agg [.nilptr]), (19, .agg [.nilptr]), (20, .niliface), (21, .int .i32 0), (22, .nils), (23, .nils), (24, .int .i64 0), (25, .agg [.int .i64 0, .nils, .nils, .int .i64 0, .nils]), (26, .agg [.int .i64 0, .nils, .nils, .int .i64 0, .nils]), (27, .nilfunc), (28, .nilfunc), (29, .nilfunc), (30, .nilfunc), (32, .nilfunc), (34, .nilfunc), (35, .nilfunc), (36, .nilfunc), (37, .nilfunc), (38, .nilfunc), (40, .nilfunc), (41, .nilfunc), (42, .nilfunc), (43, .nils), (44, .agg [.str [], .nils, .nils]), (45, .agg [.str [], .nils, .nils]), (47, .nilfunc), (48, .nilfunc), (49, .nilfunc), (50, .nilfunc), (51, .nilfunc), (52, .nilfunc), (53, .nilfunc), (54, .nilfunc), (55, .nilfunc), (56, .nilfunc), (57, .nilfunc), (58, .nilfunc), (59, .nilfunc), (60, .nilfunc), (61, .nilfunc), (62, .nilfunc), (63, .nilfunc), (64, .nils), (66, .nilfunc), (67, .nilfunc), (68, .nilfunc), (69, .nilmap), (70, .nilmap), (72, .nilfunc), (73, .nilfunc), (74, .nilfunc), (75, .nilfunc), (76, .nilfunc), (77, .nilfunc), (78, .nilfunc), (79, .nilfunc), (80, .nilfunc), (81, .nilfunc), (82, .nilfunc), (83, .nilfunc), (84, .nilfunc), (85, .nilfunc), (86, .nilfunc), (87, .nilfunc), (88, .nilfunc), (89, .nilfunc), (90, .nils), (91, .nilfunc), (92, .nilfunc), (93, .nilfunc), (94, .nilfunc), (95, .nilfunc), (96, .nilfunc), (98, .nilfunc), (99, .nilfunc), (100, .nilfunc), (101, .nilfunc), (102, .nilfunc), (103, .nilmap), (105, .nilfunc), (106, .nilfunc), (107, .nilfunc), (108, .agg [.int .i64 0, .str [], .str [], .str [], .int .i64 0, .nils, .nils]), (109, .agg [.int .i64 0, .str [], .str [], .str [], .int .i64 0, .nils, .nils]), (110, .nilfunc), (111, .nilfunc), (112, .nilfunc), (113, .nilfunc), (114, .nilfunc), (115, .nilfunc), (116, .nilfunc), (117, .nilfunc), (118, .int .u64 0), (119, .nilfunc), (120, .nilfunc), (121, .nilfunc), (122, .nilfunc), (123, .nilfunc), (124, .nilfunc), (125, .nilfunc), (126, .nilfunc), (127, .nilfunc), (128, .nilfunc), (129, .nilfunc), (130, .nilfunc), (131, .nilfunc), (132, .nilfunc), (133, .int .i64 0), (135, .nilfunc), (136, .nilfunc), (137, .nilfunc), (138, .nilfunc), (140, .nilfunc), (141, .nilfunc), (142, .int .u32 0), (143, .nilfunc), (144, .int .u64 0), (145, .nilptr), (146, .nilptr), (147, .agg [.nilptr, .nils]), (148, .agg [.nilptr, .nils]), (149, .agg [.nilptr, .nils]), (150, .agg [.nilptr, .nils]), (151, .nilfunc), (152, .nilfunc), (153, .nilfunc), (154, .nilfunc), (155, .nilfunc), (156, .nilfunc), (157, .nilfunc), (158, .nilfunc), (159, .nilfunc), (160, .nilfunc), (161, .int .u64 0), (162, .nilfunc), (163, .nilfunc), (164, .nilfunc), (165, .nilptr), (166, .nilfunc), (167, .nilfunc), (168, .niliface), (169, .niliface), (171, .nilfunc), (172, .nilfunc), (173, .nilptr), (174, .nilfunc), (175, .agg [.int .u8 0, .int .u8 0, .int .u8 0, .int .u8 0, .int .u8 0, .int .u8 0, .int .u8 0, .int .u8 0, .int .u8 0, .int .u8 0, .int .u8 0, .int .u8 0, .int .u8 0, .int .u8 0, .int .u8 0, .int .u8 0, .int .u8 0, .int .u8 0, .int .u8 0, .int .u8 0, .int .u8 0, .int .u8 0, .int .u8 0, .int .u8 0]), (176, .nilfunc), (178, .nilfunc), (179, .nilfunc), (180, .nilfunc), (181, .nilfunc), (182, .nilptr), (184, .nilfunc), (185, .nilfunc), (186, .agg [.int .u64 0, .int .u64 0, .int .u64 0, .int .u64 0, .int .u64 0, .int .u64 0, .int .u64 0, .int .u64 0, .int .u64 0, .int .u64 0, .int .u64 0, .int .u64 0, .int .u64 0, .int .u64 0, .int .u64 0, .int .u64 0, .int .u64 0, .int .u64 0, .int .u64 0, .int .u64 0]), (188, .nilfunc), (189, .nilfunc), (191, .nilfunc), (192, .nilfunc), (194, .nilfunc), (196, .nilfunc), (197, .agg [.int .u8 0, .int .u8 0, .int .u8 0, .int .u8 0, .int .u8 0, .int .u8 0, .int .u8 0, .int .u8 0, .int .u8 0, .int .u8 0, .int .u8 0, .int .u8 0, .int .u8 0, .int .u8 0, .int .u8 0, .int .u8 0, .int .u8 0, .int .u8 0, .int .u8 0, .int .u8 0, .int .u8 0, .int .u8 0, .int .u8 0, .int .u8 0, .int .u8 0, .int .u8 0, .int .u8 0, .int .u8 0, .int .u8 0, .int .u8 0, .int .u8 0, .int .u8 0]), (200, .agg [.int .u8 0, .int .u8 0]), (201, .agg [.int .u8 0, .int .u8 0]), (202, .agg [.int .u8 0, .int .u8 0, .int .u8 0, .int .u8 0, .int .u8 0, .int .u8 0, .int .u8 0, .int .u8 0, .int .u8 0, .int .u8 0, .int .u8 0, .int .u8 0, .int .u8 0, .int .u8 0, .int .u8 0, .int .u8 0, .int .u8 0, .int .u8 0, .int .u8 0, .int .u8 0, .int .u8 0, .int .u8 0, .int .u8 0, .int .u8 0, .int .u8 0, .int .u8 0, .int .u8 0, .int .u8 0, .int .u8 0, .int .u8 0, .int .u8 0, .int .u8 0]), (204, .nilfunc), (205, .agg [.nilptr, .nilptr, .nilptr, .str []]), (206, .agg [.nilptr, .nilptr, .nilptr, .str []]), (210, .nilfunc), (211, .int .u8 0), (212, .int .u8 0), (213, .nilfunc), (214, .int .i32 0), (215, .int .i32 0), (216, .agg [.int .u64 0, .int .u64 0, .int .u32 0, .int .u8 0, .int .u8 0, .int .u8 0, .int .u8 0, .nilfunc, .nilptr, .int .i32 0, .int .i32 0]), (217, .agg [.int .u64 0, .int .u64 0, .int .u32 0, .int .u8 0, .int .u8 0, .int .u8 0, .int .u8 0, .nilfunc, .nilptr, .int .i32 0, .int .i32 0])]
def rFl : List (Nat × List (Nat × Nat)) := [(7, [(0, 1), (1, 1), (2, 1), (3, 1)]), (8, [(0, 1), (1, 1), (2, 1), (3, 1)]), (13, [(0, 1), (1, 1)]), (14, [(0, 1), (1, 1)]), (18, [(0, 1)]), (19, [(0, 1)]), (25, [(0, 1), (1, 1), (2, 1), (3, 1), (4, 1)]), (26, [(0, 1), (1, 1), (2, 1), (3, 1), (4, 1)]), (44, [(0, 1), (1, 1), (2, 1)]), (45, [(0, 1), (1, 1), (2, 1)]), (108, [(0, 1), (1, 1), (2, 1), (3, 1), (4, 1), (5, 1), (6, 1)]), (109, [(0, 1), (1, 1), (2, 1), (3, 1), (4, 1), (5, 1), (6, 1)]), (147, [(0, 1), (1, 1)]), (148, [(0, 1), (1, 1)]), (149, [(0, 2)]), (150, [(0, 2)]), (200, [(0, 1), (1, 1)]), (201, [(0, 1), (1, 1)]), (205, [(0, 1), (1, 1), (2, 1), (3, 1)]), (206, [(0, 1), (1, 1), (2, 1), (3, 1)]), (208, [(0, 0)]), (209, [(0, 0)]), (216, [(0, 1), (1, 1), (2, 1), (3, 1), (4, 1), (5, 1), (6, 1), (7, 1), (8, 1), (9, 1), (10, 1)]), (217, [(0, 1), (1, 1), (2, 1), (3, 1), (4, 1), (5, 1), (6, 1), (7, 1), (8, 1), (9, 1), (10, 1)])]
def foAt (s f : Nat) : Option (Nat × Nat × Bool) := match tlook rFo s with | some l => tlook l f | none => none
def tab : Tab := { es := tlook rEs, fo := foAt, ld := tlook rLd, ik := tlook rIk, st := thas rSt, bt := thas rBt, b1 := thas rB1, zr := tlook rZr, fl := tlook rFl }
theorem kEs : (rEs.all fun x => cEs Go.Proofs.Tryz.prog x.1 x.2.1 x.2.2.1 x.2.2.2) = true := by kernel_rfl
theorem kFo : (rFo.all fun x => x.2.all fun y => cFo Go.Proofs.Tryz.prog x.1 y.1 y.2.1 y.2.2.1 y.2.2.2) = true := by kernel_rfl
theorem kLd : (rLd.all fun x => cLd Go.Proofs.Tryz.prog x.1 x.2) = true := by kernel_rfl
theorem kIk : (rIk.all fun x => cIk Go.Proofs.Tryz.prog x.1 x.2) = true := by kernel_rfl
theorem kSt : (rSt.all (cSt Go.Proofs.Tryz.prog)) = true := by kernel_rfl
theorem kBt : (rBt.all (cBt Go.Proofs.Tryz.prog)) = true := by kernel_rfl
theorem kB1 : (rB1.all (cB1 Go.Proofs.Tryz.prog)) = true := by kernel_rfl
theorem kZr : (rZr.all fun x => cZr Go.Proofs.Tryz.prog x.1 x.2) = true := by kernel_rfl
theorem kFl : (rFl.all fun x => cFl Go.Proofs.Tryz.prog x.1 x.2) = true := by kernel_rfl
theorem tabOk : tab.Ok Go.Proofs.Tryz.prog := {
 es t e k g h := cEs_ok (tlook_all (fun t x => cEs Go.Proofs.Tryz.prog t x.1 x.2.1 x.2.2) rEs kEs t (e, k, g) h)
 fo s f o k g h := by
  simp only [tab, foAt] at h
  split at h
  ·rename_i l hl
   exact cFo_ok (tlook_all (fun f x => cFo Go.Proofs.Tryz.prog s f x.1 x.2.1 x.2.2) l (tlook_all (fun s l => l.all fun y => cFo Go.Proofs.Tryz.prog s y.1 y.2.1 y.2.2.1 y.2.2.2) rFo kFo s l hl) f (o, k, g) h)
  ·simp at h
 ld t r h := cLd_ok (tlook_all (fun t r => cLd Go.Proofs.Tryz.prog t r) rLd kLd t r h)
 ik t k h := cIk_ok (tlook_all (fun t r => cIk Go.Proofs.Tryz.prog t r) rIk kIk t k h)
 st t h := cSt_ok (thas_all _ rSt kSt t h)
 bt t h := cBt_ok (thas_all _ rBt kBt t h)
 b1 t h := cB1_ok (thas_all _ rB1 kB1 t h)
 zr t v h := cZr_ok (tlook_all (fun t r => cZr Go.Proofs.Tryz.prog t r) rZr kZr t v h)
 fl t l h := cFl_ok (tlook_all (fun t r => cFl Go.Proofs.Tryz.prog t r) rFl kFl t l h) }
@[simp, go_sem] theorem es_22 : tab.es 22 = some (45, 3, true) := rfl
@[simp, go_sem] theorem es_23 : tab.es 23 = some (9, 1, false) := rfl
@[simp, go_sem] theorem es_43 : tab.es 43 = some (109, 7, true) := rfl
@[simp, go_sem] theorem es_64 : tab.es 64 = some (5, 1, false) := rfl
@[simp, go_sem] theorem es_90 : tab.es 90 = some (22, 1, false) := rfl
@[simp, go_sem] theorem fo_7_0 : tab.fo 7 0 = some (0, 1, false) := rfl
@[simp, go_sem] theorem fo_7_1 : tab.fo 7 1 = some (1, 1, false) := rfl
@[simp, go_sem] theorem fo_7_2 : tab.fo 7 2 = some (2, 1, false) := rfl
@[simp, go_sem] theorem fo_7_3 : tab.fo 7 3 = some (3, 1, false) := rfl
@[simp, go_sem] theorem fo_8_0 : tab.fo 8 0 = some (0, 1, false) := rfl
@[simp, go_sem] theorem fo_8_1 : tab.fo 8 1 = some (1, 1, false) := rfl
@[simp, go_sem] theorem fo_8_2 : tab.fo 8 2 = some (2, 1, false) := rfl
@[simp, go_sem] theorem fo_8_3 : tab.fo 8 3 = some (3, 1, false) := rfl
@[simp, go_sem] theorem fo_13_0 : tab.fo 13 0 = some (0, 1, false) := rfl
@[simp, go_sem] theorem fo_13_1 : tab.fo 13 1 = some (1, 1, false) := rfl
@[simp, go_sem] theorem fo_14_0 : tab.fo 14 0 = some (0, 1, false) := rfl
@[simp, go_sem] theorem fo_14_1 : tab.fo 14 1 = some (1, 1, false) := rfl
@[simp, go_sem] theorem fo_18_0 : tab.fo 18 0 = some (0, 1, false) := rfl
@[simp, go_sem] theorem fo_19_0 : tab.fo 19 0 = some (0, 1, false) := rfl
@[simp, go_sem] theorem fo_25_0 : tab.fo 25 0 = some (0, 1, false) := rfl
@[simp, go_sem] theorem fo_25_1 : tab.fo 25 1 = some (1, 1, false) := rfl
@[simp, go_sem] theorem fo_25_2 : tab.fo 25 2 = some (2, 1, false) := rfl
@[simp, go_sem] theorem fo_25_3 : tab.fo 25 3 = some (3, 1, false) := rfl
@[simp, go_sem] theorem fo_25_4 : tab.fo 25 4 = some (4, 1, false) := rfl
@[simp, go_sem] theorem fo_26_0 : tab.fo 26 0 = some (0, 1, false) := rfl
@[simp, go_sem] theorem fo_26_1 : tab.fo 26 1 = some (1, 1, false) := rfl
@[simp, go_sem] theorem fo_26_2 : tab.fo 26 2 = some (2, 1, false) := rfl
@[simp, go_sem] theorem fo_26_3 : tab.fo 26 3 = some (3, 1, false) := rfl
@[simp, go_sem] theorem fo_26_4 : tab.fo 26 4 = some (4, 1, false) := rfl
@[simp, go_sem] theorem fo_44_0 : tab.fo 44 0 = some (0, 1, false) := rfl
@[simp, go_sem] theorem fo_44_1 : tab.fo 44 1 = some (1, 1, false) := rfl
@[simp, go_sem] theorem fo_44_2 : tab.fo 44 2 = some (2, 1, false) := rfl
@[simp, go_sem] theorem fo_45_0 : tab.fo 45 0 = some (0, 1, false) := rfl
@[simp, go_sem] theorem fo_45_1 : tab.fo 45 1 = some (1, 1, false) := rfl
@[simp, go_sem] theorem fo_45_2 : tab.fo 45 2 = some (2, 1, false) := rfl
@[simp, go_sem] theorem fo_108_0 : tab.fo 108 0 = some (0, 1, false) := rfl
@[simp, go_sem] theorem fo_108_1 : tab.fo 108 1 = some (1, 1, false) := rfl
@[simp, go_sem] theorem fo_108_2 : tab.fo 108 2 = some (2, 1, false) := rfl
@[simp, go_sem] theorem fo_108_3 : tab.fo 108 3 = some (3, 1, false) := rfl
@[simp, go_sem] theorem fo_108_4 : tab.fo 108 4 = some (4, 1, false) := rfl
@[simp, go_sem] theorem fo_108_5 : tab.fo 108 5 = some (5, 1, false) := rfl
@[simp, go_sem] theorem fo_108_6 : tab.fo 108 6 = some (6, 1, false) := rfl
@[simp, go_sem] theorem fo_109_0 : tab.fo 109 0 = some (0, 1, false) := rfl
@[simp, go_sem] theorem fo_109_1 : tab.fo 109 1 = some (1, 1, false) := rfl
@[simp, go_sem] theorem fo_109_2 : tab.fo 109 2 = some (2, 1, false) := rfl
@[simp, go_sem] theorem fo_109_3 : tab.fo 109 3 = some (3, 1, false) := rfl
@[simp, go_sem] theorem fo_109_4 : tab.fo 109 4 = some (4, 1, false) := rfl
@[simp, go_sem] theorem fo_109_5 : tab.fo 109 5 = some (5, 1, false) := rfl
@[simp, go_sem] theorem fo_109_6 : tab.fo 109 6 = some (6, 1, false) := rfl
@[simp, go_sem] theorem fo_147_0 : tab.fo 147 0 = some (0, 1, false) := rfl
@[simp, go_sem] theorem fo_147_1 : tab.fo 147 1 = some (1, 1, false) := rfl
@[simp, go_sem] theorem fo_148_0 : tab.fo 148 0 = some (0, 1, false) := rfl
@[simp, go_sem] theorem fo_148_1 : tab.fo 148 1 = some (1, 1, false) := rfl
@[simp, go_sem] theorem fo_149_0 : tab.fo 149 0 = some (0, 2, true) := rfl
@[simp, go_sem] theorem fo_150_0 : tab.fo 150 0 = some (0, 2, true) := rfl
@[simp, go_sem] theorem fo_200_0 : tab.fo 200 0 = some (0, 1, false) := rfl
@[simp, go_sem] theorem fo_200_1 : tab.fo 200 1 = some (1, 1, false) := rfl
@[simp, go_sem] theorem fo_201_0 : tab.fo 201 0 = some (0, 1, false) := rfl
@[simp, go_sem] theorem fo_201_1 : tab.fo 201 1 = some (1, 1, false) := rfl
@[simp, go_sem] theorem fo_205_0 : tab.fo 205 0 = some (0, 1, false) := rfl
@[simp, go_sem] theorem fo_205_1 : tab.fo 205 1 = some (1, 1, false) := rfl
@[simp, go_sem] theorem fo_205_2 : tab.fo 205 2 = some (2, 1, false) := rfl
@[simp, go_sem] theorem fo_205_3 : tab.fo 205 3 = some (3, 1, false) := rfl
@[simp, go_sem] theorem fo_206_0 : tab.fo 206 0 = some (0, 1, false) := rfl
@[simp, go_sem] theorem fo_206_1 : tab.fo 206 1 = some (1, 1, false) := rfl
@[simp, go_sem] theorem fo_206_2 : tab.fo 206 2 = some (2, 1, false) := rfl
@[simp, go_sem] theorem fo_206_3 : tab.fo 206 3 = some (3, 1, false) := rfl
@[simp, go_sem] theorem fo_216_0 : tab.fo 216 0 = some (0, 1, false) := rfl
@[simp, go_sem] theorem fo_216_1 : tab.fo 216 1 = some (1, 1, false) := rfl
@[simp, go_sem] theorem fo_216_2 : tab.fo 216 2 = some (2, 1, false) := rfl
@[simp, go_sem] theorem fo_216_3 : tab.fo 216 3 = some (3, 1, false) := rfl
@[simp, go_sem] theorem fo_216_4 : tab.fo 216 4 = some (4, 1, false) := rfl
@[simp, go_sem] theorem fo_216_5 : tab.fo 216 5 = some (5, 1, false) := rfl
@[simp, go_sem] theorem fo_216_6 : tab.fo 216 6 = some (6, 1, false) := rfl
@[simp, go_sem] theorem fo_216_7 : tab.fo 216 7 = some (7, 1, false) := rfl
@[simp, go_sem] theorem fo_216_8 : tab.fo 216 8 = some (8, 1, false) := rfl
@[simp, go_sem] theorem fo_216_9 : tab.fo 216 9 = some (9, 1, false) := rfl
@[simp, go_sem] theorem fo_216_10 : tab.fo 216 10 = some (10, 1, false) := rfl
@[simp, go_sem] theorem fo_217_0 : tab.fo 217 0 = some (0, 1, false) := rfl
@[simp, go_sem] theorem fo_217_1 : tab.fo 217 1 = some (1, 1, false) := rfl
@[simp, go_sem] theorem fo_217_2 : tab.fo 217 2 = some (2, 1, false) := rfl
@[simp, go_sem] theorem fo_217_3 : tab.fo 217 3 = some (3, 1, false) := rfl
@[simp, go_sem] theorem fo_217_4 : tab.fo 217 4 = some (4, 1, false) := rfl
@[simp, go_sem] theorem fo_217_5 : tab.fo 217 5 = some (5, 1, false) := rfl
@[simp, go_sem] theorem fo_217_6 : tab.fo 217 6 = some (6, 1, false) := rfl
@[simp, go_sem] theorem fo_217_7 : tab.fo 217 7 = some (7, 1, false) := rfl
@[simp, go_sem] theorem fo_217_8 : tab.fo 217 8 = some (8, 1, false) := rfl
@[simp, go_sem] theorem fo_217_9 : tab.fo 217 9 = some (9, 1, false) := rfl
@[simp, go_sem] theorem fo_217_10 : tab.fo 217 10 = some (10, 1, false) := rfl
@[simp, go_sem] theorem ld_1 : tab.ld 1 = some none := rfl
@[simp, go_sem] theorem ld_2 : tab.ld 2 = some none := rfl
@[simp, go_sem] theorem ld_3 : tab.ld 3 = some none := rfl
@[simp, go_sem] theorem ld_4 : tab.ld 4 = some none := rfl
@[simp, go_sem] theorem ld_5 : tab.ld 5 = some none := rfl
@[simp, go_sem] theorem ld_6 : tab.ld 6 = some none := rfl
@[simp, go_sem] theorem ld_7 : tab.ld 7 = some (some 4) := rfl
@[simp, go_sem] theorem ld_8 : tab.ld 8 = some (some 4) := rfl
@[simp, go_sem] theorem ld_9 : tab.ld 9 = some none := rfl
@[simp, go_sem] theorem ld_10 : tab.ld 10 = some none := rfl
@[simp, go_sem] theorem ld_11 : tab.ld 11 = some none := rfl
@[simp, go_sem] theorem ld_12 : tab.ld 12 = some none := rfl
@[simp, go_sem] theorem ld_13 : tab.ld 13 = some (some 2) := rfl
@[simp, go_sem] theorem ld_14 : tab.ld 14 = some (some 2) := rfl
@[simp, go_sem] theorem ld_15 : tab.ld 15 = some none := rfl
@[simp, go_sem] theorem ld_16 : tab.ld 16 = some none := rfl
@[simp, go_sem] theorem ld_17 : tab.ld 17 = some none := rfl
@[simp, go_sem] theorem ld_18 : tab.ld 18 = some (some 1) := rfl
@[simp, go_sem] theorem ld_19 : tab.ld 19 = some (some 1) := rfl
@[simp, go_sem] theorem ld_20 : tab.ld 20 = some none := rfl
@[simp, go_sem] theorem ld_21 : tab.ld 21 = some none := rfl
@[simp, go_sem] theorem ld_22 : tab.ld 22 = some none := rfl
@[simp, go_sem] theorem ld_23 : tab.ld 23 = some none := rfl
@[simp, go_sem] theorem ld_24 : tab.ld 24 = some none := rfl
@[simp, go_sem] theorem ld_25 : tab.ld 25 = some (some 5) := rfl
@[simp, go_sem] theorem ld_26 : tab.ld 26 = some (some 5) := rfl
@[simp, go_sem] theorem ld_27 : tab.ld 27 = some none := rfl
@[simp, go_sem] theorem ld_28 : tab.ld 28 = some none := rfl
@[simp, go_sem] theorem ld_29 : tab.ld 29 = some none := rfl
@[simp, go_sem] theorem ld_30 : tab.ld 30 = some none := rfl
@[simp, go_sem] theorem ld_32 : tab.ld 32 = some none := rfl
@[simp, go_sem] theorem ld_34 : tab.ld 34 = some none := rfl
@[simp, go_sem] theorem ld_35 : tab.ld 35 = some none := rfl
@[simp, go_sem] theorem ld_36 : tab.ld 36 = some none := rfl
@[simp, go_sem] theorem ld_37 : tab.ld 37 = some none := rfl
@[simp, go_sem] theorem ld_38 : tab.ld 38 = some none := rfl
@[simp, go_sem] theorem ld_40 : tab.ld 40 = some none := rfl
@[simp, go_sem] theorem ld_41 : tab.ld 41 = some none := rfl
@[simp, go_sem] theorem ld_42 : tab.ld 42 = some none := rfl
@[simp, go_sem] theorem ld_43 : tab.ld 43 = some none := rfl
@[simp, go_sem] theorem ld_44 : tab.ld 44 = some (some 3) := rfl
@[simp, go_sem] theorem ld_45 : tab.ld 45 = some (some 3) := rfl
@[simp, go_sem] theorem ld_47 : tab.ld 47 = some none := rfl
@[simp, go_sem] theorem ld_48 : tab.ld 48 = some none := rfl
@[simp, go_sem] theorem ld_49 : tab.ld 49 = some none := rfl
@[simp, go_sem] theorem ld_50 : tab.ld 50 = some none := rfl
@[simp, go_sem] theorem ld_51 : tab.ld 51 = some none := rfl
@[simp, go_sem] theorem ld_52 : tab.ld 52 = some none := rfl
@[simp, go_sem] theorem ld_53 : tab.ld 53 = some none := rfl
@[simp, go_sem] theorem ld_54 : tab.ld 54 = some none := rfl
@[simp, go_sem] theorem ld_55 : tab.ld 55 = some none := rfl
@[simp, go_sem] theorem ld_56 : tab.ld 56 = some none := rfl
@[simp, go_sem] theorem ld_57 : tab.ld 57 = some none := rfl
@[simp, go_sem] theorem ld_58 : tab.ld 58 = some none := rfl
@[simp, go_sem] theorem ld_59 : tab.ld 59 = some none := rfl
@[simp, go_sem] theorem ld_60 : tab.ld 60 = some none := rfl
@[simp, go_sem] theorem ld_61 : tab.ld 61 = some none := rfl
@[simp, go_sem] theorem ld_62 : tab.ld 62 = some none := rfl
@[simp, go_sem] theorem ld_63 : tab.ld 63 = some none := rfl
@[simp, go_sem] theorem ld_64 : tab.ld 64 = some none := rfl
@[simp, go_sem] theorem ld_66 : tab.ld 66 = some none := rfl
@[simp, go_sem] theorem ld_67 : tab.ld 67 = some none := rfl
@[simp, go_sem] theorem ld_68 : tab.ld 68 = some none := rfl
@[simp, go_sem] theorem ld_69 : tab.ld 69 = some none := rfl
@[simp, go_sem] theorem ld_70 : tab.ld 70 = some none := rfl
@[simp, go_sem] theorem ld_72 : tab.ld 72 = some none := rfl
@[simp, go_sem] theorem ld_73 : tab.ld 73 = some none := rfl
@[simp, go_sem] theorem ld_74 : tab.ld 74 = some none := rfl
@[simp, go_sem] theorem ld_75 : tab.ld 75 = some none := rfl
@[simp, go_sem] theorem ld_76 : tab.ld 76 = some none := rfl
@[simp, go_sem] theorem ld_77 : tab.ld 77 = some none := rfl
@[simp, go_sem] theorem ld_78 : tab.ld 78 = some none := rfl
@[simp, go_sem] theorem ld_79 : tab.ld 79 = some none := rfl
@[simp, go_sem] theorem ld_80 : tab.ld 80 = some none := rfl
@[simp, go_sem] theorem ld_81 : tab.ld 81 = some none := rfl
@[simp, go_sem] theorem ld_82 : tab.ld 82 = some none := rfl
@[simp, go_sem] theorem ld_83 : tab.ld 83 = some none := rfl
@[simp, go_sem] theorem ld_84 : tab.ld 84 = some none := rfl
@[simp, go_sem] theorem ld_85 : tab.ld 85 = some none := rfl
@[simp, go_sem] theorem ld_86 : tab.ld 86 = some none := rfl
@[simp, go_sem] theorem ld_87 : tab.ld 87 = some none := rfl
@[simp, go_sem] theorem ld_88 : tab.ld 88 = some none := rfl
@[simp, go_sem] theorem ld_89 : tab.ld 89 = some none := rfl
@[simp, go_sem] theorem ld_90 : tab.ld 90 = some none := rfl
@[simp, go_sem] theorem ld_91 : tab.ld 91 = some none := rfl
@[simp, go_sem] theorem ld_92 : tab.ld 92 = some none := rfl
@[simp, go_sem] theorem ld_93 : tab.ld 93 = some none := rfl
@[simp, go_sem] theorem ld_94 : tab.ld 94 = some none := rfl
@[simp, go_sem] theorem ld_95 : tab.ld 95 = some none := rfl
@[simp, go_sem] theorem ld_96 : tab.ld 96 = some none := rfl
@[simp, go_sem] theorem ld_98 : tab.ld 98 = some none := rfl
@[simp, go_sem] theorem ld_99 : tab.ld 99 = some none := rfl
@[simp, go_sem] theorem ld_100 : tab.ld 100 = some none := rfl
@[simp, go_sem] theorem ld_101 : tab.ld 101 = some none := rfl
@[simp, go_sem] theorem ld_102 : tab.ld 102 = some none := rfl
@[simp, go_sem] theorem ld_103 : tab.ld 103 = some none := rfl
@[simp, go_sem] theorem ld_105 : tab.ld 105 = some none := rfl
@[simp, go_sem] theorem ld_106 : tab.ld 106 = some none := rfl
@[simp, go_sem] theorem ld_107 : tab.ld 107 = some none := rfl
@[simp, go_sem] theorem ld_108 : tab.ld 108 = some (some 7) := rfl
@[simp, go_sem] theorem ld_109 : tab.ld 109 = some (some 7) := rfl
@[simp, go_sem] theorem ld_110 : tab.ld 110 = some none := rfl
@[simp, go_sem] theorem ld_111 : tab.ld 111 = some none := rfl
@[simp, go_sem] theorem ld_112 : tab.ld 112 = some none := rfl
@[simp, go_sem] theorem ld_113 : tab.ld 113 = some none := rfl
@[simp, go_sem] theorem ld_114 : tab.ld 114 = some none := rfl
@[simp, go_sem] theorem ld_115 : tab.ld 115 = some none := rfl
@[simp, go_sem] theorem ld_116 : tab.ld 116 = some none := rfl
@[simp, go_sem] theorem ld_117 : tab.ld 117 = some none := rfl
@[simp, go_sem] theorem ld_118 : tab.ld 118 = some none := rfl
@[simp, go_sem] theorem ld_119 : tab.ld 119 = some none := rfl
@[simp, go_sem] theorem ld_120 : tab.ld 120 = some none := rfl
@[simp, go_sem] theorem ld_121 : tab.ld 121 = some none := rfl
@[simp, go_sem] theorem ld_122 : tab.ld 122 = some none := rfl
@[simp, go_sem] theorem ld_123 : tab.ld 123 = some none := rfl
@[simp, go_sem] theorem ld_124 : tab.ld 124 = some none := rfl
@[simp, go_sem] theorem ld_125 : tab.ld 125 = some none := rfl
@[simp, go_sem] theorem ld_126 : tab.ld 126 = some none := rfl
@[simp, go_sem] theorem ld_127 : tab.ld 127 = some none := rfl
@[simp, go_sem] theorem ld_128 : tab.ld 128 = some none := rfl
@[simp, go_sem] theorem ld_129 : tab.ld 129 = some none := rfl
@[simp, go_sem] theorem ld_130 : tab.ld 130 = some none := rfl
@[simp, go_sem] theorem ld_131 : tab.ld 131 = some none := rfl
@[simp, go_sem] theorem ld_132 : tab.ld 132 = some none := rfl
@[simp, go_sem] theorem ld_133 : tab.ld 133 = some none := rfl
@[simp, go_sem] theorem ld_135 : tab.ld 135 = some none := rfl
@[simp, go_sem] theorem ld_136 : tab.ld 136 = some none := rfl
@[simp, go_sem] theorem ld_137 : tab.ld 137 = some none := rfl
@[simp, go_sem] theorem ld_138 : tab.ld 138 = some none := rfl
@[simp, go_sem] theorem ld_140 : tab.ld 140 = some none := rfl
@[simp, go_sem] theorem ld_141 : tab.ld 141 = some none := rfl
@[simp, go_sem] theorem ld_142 : tab.ld 142 = some none := rfl
@[simp, go_sem] theorem ld_143 : tab.ld 143 = some none := rfl
@[simp, go_sem] theorem ld_144 : tab.ld 144 = some none := rfl
@[simp, go_sem] theorem ld_145 : tab.ld 145 = some none := rfl
@[simp, go_sem] theorem ld_146 : tab.ld 146 = some none := rfl
@[simp, go_sem] theorem ld_147 : tab.ld 147 = some (some 2) := rfl
@[simp, go_sem] theorem ld_148 : tab.ld 148 = some (some 2) := rfl
@[simp, go_sem] theorem ld_149 : tab.ld 149 = some (some 2) := rfl
@[simp, go_sem] theorem ld_150 : tab.ld 150 = some (some 2) := rfl
@[simp, go_sem] theorem ld_151 : tab.ld 151 = some none := rfl
@[simp, go_sem] theorem ld_152 : tab.ld 152 = some none := rfl
@[simp, go_sem] theorem ld_153 : tab.ld 153 = some none := rfl
@[simp, go_sem] theorem ld_154 : tab.ld 154 = some none := rfl
@[simp, go_sem] theorem ld_155 : tab.ld 155 = some none := rfl
@[simp, go_sem] theorem ld_156 : tab.ld 156 = some none := rfl
@[simp, go_sem] theorem ld_157 : tab.ld 157 = some none := rfl
@[simp, go_sem] theorem ld_158 : tab.ld 158 = some none := rfl
@[simp, go_sem] theorem ld_159 : tab.ld 159 = some none := rfl
@[simp, go_sem] theorem ld_160 : tab.ld 160 = some none := rfl
@[simp, go_sem] theorem ld_161 : tab.ld 161 = some none := rfl
@[simp, go_sem] theorem ld_162 : tab.ld 162 = some none := rfl
@[simp, go_sem] theorem ld_163 : tab.ld 163 = some none := rfl
@[simp, go_sem] theorem ld_164 : tab.ld 164 = some none := rfl
@[simp, go_sem] theorem ld_165 : tab.ld 165 = some none := rfl
@[simp, go_sem] theorem ld_166 : tab.ld 166 = some none := rfl
@[simp, go_sem] theorem ld_167 : tab.ld 167 = some none := rfl
@[simp, go_sem] theorem ld_168 : tab.ld 168 = some none := rfl
@[simp, go_sem] theorem ld_169 : tab.ld 169 = some none := rfl
@[simp, go_sem] theorem ld_171 : tab.ld 171 = some none := rfl
@[simp, go_sem] theorem ld_172 : tab.ld 172 = some none := rfl
@[simp, go_sem] theorem ld_173 : tab.ld 173 = some none := rfl
@[simp, go_sem] theorem ld_174 : tab.ld 174 = some none := rfl
@[simp, go_sem] theorem ld_175 : tab.ld 175 = some (some 24) := rfl
@[simp, go_sem] theorem ld_176 : tab.ld 176 = some none := rfl
@[simp, go_sem] theorem ld_178 : tab.ld 178 = some none := rfl
@[simp, go_sem] theorem ld_179 : tab.ld 179 = some none := rfl
@[simp, go_sem] theorem ld_180 : tab.ld 180 = some none := rfl
@[simp, go_sem] theorem ld_181 : tab.ld 181 = some none := rfl
@[simp, go_sem] theorem ld_182 : tab.ld 182 = some none := rfl
@[simp, go_sem] theorem ld_184 : tab.ld 184 = some none := rfl
@[simp, go_sem] theorem ld_185 : tab.ld 185 = some none := rfl
@[simp, go_sem] theorem ld_186 : tab.ld 186 = some (some 20) := rfl
@[simp, go_sem] theorem ld_187 : tab.ld 187 = some (some 65) := rfl
@[simp, go_sem] theorem ld_188 : tab.ld 188 = some none := rfl
@[simp, go_sem] theorem ld_189 : tab.ld 189 = some none := rfl
@[simp, go_sem] theorem ld_191 : tab.ld 191 = some none := rfl
@[simp, go_sem] theorem ld_192 : tab.ld 192 = some none := rfl
@[simp, go_sem] theorem ld_194 : tab.ld 194 = some none := rfl
@[simp, go_sem] theorem ld_196 : tab.ld 196 = some none := rfl
@[simp, go_sem] theorem ld_197 : tab.ld 197 = some (some 32) := rfl
@[simp, go_sem] theorem ld_198 : tab.ld 198 = some (some 64) := rfl
@[simp, go_sem] theorem ld_199 : tab.ld 199 = some (some 256) := rfl
@[simp, go_sem] theorem ld_200 : tab.ld 200 = some (some 2) := rfl
@[simp, go_sem] theorem ld_201 : tab.ld 201 = some (some 2) := rfl
@[simp, go_sem] theorem ld_202 : tab.ld 202 = some (some 32) := rfl
@[simp, go_sem] theorem ld_204 : tab.ld 204 = some none := rfl
@[simp, go_sem] theorem ld_205 : tab.ld 205 = some (some 4) := rfl
@[simp, go_sem] theorem ld_206 : tab.ld 206 = some (some 4) := rfl
@[simp, go_sem] theorem ld_207 : tab.ld 207 = some (some 0) := rfl
@[simp, go_sem] theorem ld_208 : tab.ld 208 = some (some 0) := rfl
@[simp, go_sem] theorem ld_209 : tab.ld 209 = some (some 0) := rfl
@[simp, go_sem] theorem ld_210 : tab.ld 210 = some none := rfl
@[simp, go_sem] theorem ld_211 : tab.ld 211 = some none := rfl
@[simp, go_sem] theorem ld_212 : tab.ld 212 = some none := rfl
@[simp, go_sem] theorem ld_213 : tab.ld 213 = some none := rfl
@[simp, go_sem] theorem ld_214 : tab.ld 214 = some none := rfl
@[simp, go_sem] theorem ld_215 : tab.ld 215 = some none := rfl
@[simp, go_sem] theorem ld_216 : tab.ld 216 = some (some 11) := rfl
@[simp, go_sem] theorem ld_217 : tab.ld 217 = some (some 11) := rfl
@[simp, go_sem] theorem ik_2 : tab.ik 2 = some .i64 := rfl
@[simp, go_sem] theorem ik_3 : tab.ik 3 = some .i64 := rfl
@[simp, go_sem] theorem ik_5 : tab.ik 5 = some .u8 := rfl
@[simp, go_sem] theorem ik_6 : tab.ik 6 = some .u8 := rfl
@[simp, go_sem] theorem ik_12 : tab.ik 12 = some .u64 := rfl
@[simp, go_sem] theorem ik_21 : tab.ik 21 = some .i32 := rfl
@[simp, go_sem] theorem ik_24 : tab.ik 24 = some .i64 := rfl
@[simp, go_sem] theorem ik_118 : tab.ik 118 = some .u64 := rfl
@[simp, go_sem] theorem ik_133 : tab.ik 133 = some .i64 := rfl
@[simp, go_sem] theorem ik_142 : tab.ik 142 = some .u32 := rfl
@[simp, go_sem] theorem ik_144 : tab.ik 144 = some .u64 := rfl
@[simp, go_sem] theorem ik_161 : tab.ik 161 = some .u64 := rfl
@[simp, go_sem] theorem ik_211 : tab.ik 211 = some .u8 := rfl
@[simp, go_sem] theorem ik_212 : tab.ik 212 = some .u8 := rfl
@[simp, go_sem] theorem ik_214 : tab.ik 214 = some .i32 := rfl
@[simp, go_sem] theorem ik_215 : tab.ik 215 = some .i32 := rfl
@[simp, go_sem] theorem st_9 : tab.st 9 = true := rfl
@[simp, go_sem] theorem st_10 : tab.st 10 = true := rfl
@[simp, go_sem] theorem st_11 : tab.st 11 = true := rfl
@[simp, go_sem] theorem bt_4 : tab.bt 4 = true := rfl
@[simp, go_sem] theorem b1_5 : tab.b1 5 = true := rfl
@[simp, go_sem] theorem b1_6 : tab.b1 6 = true := rfl
@[simp, go_sem] theorem b1_211 : tab.b1 211 = true := rfl
@[simp, go_sem] theorem b1_212 : tab.b1 212 = true := rfl
@[simp, go_sem] theorem stn_22 : tab.st 22 = false := rfl
@[simp, go_sem] theorem stn_23 : tab.st 23 = false := rfl
@[simp, go_sem] theorem stn_43 : tab.st 43 = false := rfl
@[simp, go_sem] theorem stn_64 : tab.st 64 = false := rfl
@[simp, go_sem] theorem stn_90 : tab.st 90 = false := rfl
@[simp, go_sem] theorem ikn_9 : tab.ik 9 = none := rfl
@[simp, go_sem] theorem ikn_10 : tab.ik 10 = none := rfl
@[simp, go_sem] theorem ikn_11 : tab.ik 11 = none := rfl
@[simp, go_sem] theorem zr_1 : tab.zr 1 = some (.nilfunc) := rfl
@[simp, go_sem] theorem zr_2 : tab.zr 2 = some (.int .i64 0) := rfl
@[simp, go_sem] theorem zr_3 : tab.zr 3 = some (.int .i64 0) := rfl
@[simp, go_sem] theorem zr_4 : tab.zr 4 = some (.bool false) := rfl
@[simp, go_sem] theorem zr_5 : tab.zr 5 = some (.int .u8 0) := rfl
@[simp, go_sem] theorem zr_6 : tab.zr 6 = some (.int .u8 0) := rfl
@[simp, go_sem] theorem zr_7 : tab.zr 7 = some (.agg [.int .i64 0, .int .i64 0, .bool false, .int .u8 0]) := rfl
@[simp, go_sem] theorem zr_8 : tab.zr 8 = some (.agg [.int .i64 0, .int .i64 0, .bool false, .int .u8 0]) := rfl
@[simp, go_sem] theorem zr_9 : tab.zr 9 = some (.str []) := rfl
@[simp, go_sem] theorem zr_10 : tab.zr 10 = some (.str []) := rfl
@[simp, go_sem] theorem zr_11 : tab.zr 11 = some (.str []) := rfl
@[simp, go_sem] theorem zr_12 : tab.zr 12 = some (.int .u64 0) := rfl
@[simp, go_sem] theorem zr_13 : tab.zr 13 = some (.agg [.str [], .int .u64 0]) := rfl
@[simp, go_sem] theorem zr_14 : tab.zr 14 = some (.agg [.str [], .int .u64 0]) := rfl
@[simp, go_sem] theorem zr_15 : tab.zr 15 = some (.nilptr) := rfl
@[simp, go_sem] theorem zr_16 : tab.zr 16 = some (.nilptr) := rfl
@[simp, go_sem] theorem zr_17 : tab.zr 17 = some (.nilptr) := rfl
@[simp, go_sem] theorem zr_18 : tab.zr 18 = some (.agg [.nilptr]) := rfl
@[simp, go_sem] theorem zr_19 : tab.zr 19 = some (.agg [.nilptr]) := rfl
@[simp, go_sem] theorem zr_20 : tab.zr 20 = some (.niliface) := rfl
@[simp, go_sem] theorem zr_21 : tab.zr 21 = some (.int .i32 0) := rfl
@[simp, go_sem] theorem zr_22 : tab.zr 22 = some (.nils) := rfl
@[simp, go_sem] theorem zr_23 : tab.zr 23 = some (.nils) := rfl
@[simp, go_sem] theorem zr_24 : tab.zr 24 = some (.int .i64 0) := rfl
@[simp, go_sem] theorem zr_25 : tab.zr 25 = some (.agg [.int .i64 0, .nils, .nils, .int .i64 0, .nils]) := rfl
@[simp, go_sem] theorem zr_26 : tab.zr 26 = some (.agg [.int .i64 0, .nils, .nils, .int .i64 0, .nils]) := rfl
@[simp, go_sem] theorem zr_27 : tab.zr 27 = some (.nilfunc) := rfl
@[simp, go_sem] theorem zr_28 : tab.zr 28 = some (.nilfunc) := rfl
@[simp, go_sem] theorem zr_29 : tab.zr 29 = some (.nilfunc) := rfl
@[simp, go_sem] theorem zr_30 : tab.zr 30 = some (.nilfunc) := rfl
@[simp, go_sem] theorem zr_32 : tab.zr 32 = some (.nilfunc) := rfl
@[simp, go_sem] theorem zr_34 : tab.zr 34 = some (.nilfunc) := rfl
@[simp, go_sem] theorem zr_35 : tab.zr 35 = some (.nilfunc) := rfl
@[simp, go_sem] theorem zr_36 : tab.zr 36 = some (.nilfunc) := rfl
@[simp, go_sem] theorem zr_37 : tab.zr 37 = some (.nilfunc) := rfl
@[simp, go_sem] theorem zr_38 : tab.zr 38 = some (.nilfunc) := rfl
@[simp, go_sem] theorem zr_40 : tab.zr 40 = some (.nilfunc) := rfl
@[simp, go_sem] theorem zr_41 : tab.zr 41 = some (.nilfunc) := rfl
@[simp, go_sem] theorem zr_42 : tab.zr 42 = some (.nilfunc) := rfl
@[simp, go_sem] theorem zr_43 : tab.zr 43 = some (.nils) := rfl
@[simp, go_sem] theorem zr_44 : tab.zr 44 = some (.agg [.str [], .nils, .nils]) := rfl
@[simp, go_sem] theorem zr_45 : tab.zr 45 = some (.agg [.str [], .nils, .nils]) := rfl
@[simp, go_sem] theorem zr_47 : tab.zr 47 = some (.nilfunc) := rfl
@[simp, go_sem] theorem zr_48 : tab.zr 48 = some (.nilfunc) := rfl
@[simp, go_sem] theorem zr_49 : tab.zr 49 = some (.nilfunc) := rfl
@[simp, go_sem] theorem zr_50 : tab.zr 50 = some (.nilfunc) := rfl
@[simp, go_sem] theorem zr_51 : tab.zr 51 = some (.nilfunc) := rfl
@[simp, go_sem] theorem zr_52 : tab.zr 52 = some (.nilfunc) := rfl
@[simp, go_sem] theorem zr_53 : tab.zr 53 = some (.nilfunc) := rfl
@[simp, go_sem] theorem zr_54 : tab.zr 54 = some (.nilfunc) := rfl
@[simp, go_sem] theorem zr_55 : tab.zr 55 = some (.nilfunc) := rfl
@[simp, go_sem] theorem zr_56 : tab.zr 56 = some (.nilfunc) := rfl
@[simp, go_sem] theorem zr_57 : tab.zr 57 = some (.nilfunc) := rfl
@[simp, go_sem] theorem zr_58 : tab.zr 58 = some (.nilfunc) := rfl
@[simp, go_sem] theorem zr_59 : tab.zr 59 = some (.nilfunc) := rfl
@[simp, go_sem] theorem zr_60 : tab.zr 60 = some (.nilfunc) := rfl
@[simp, go_sem] theorem zr_61 : tab.zr 61 = some (.nilfunc) := rfl
@[simp, go_sem] theorem zr_62 : tab.zr 62 = some (.nilfunc) := rfl
@[simp, go_sem] theorem zr_63 : tab.zr 63 = some (.nilfunc) := rfl
@[simp, go_sem] theorem zr_64 : tab.zr 64 = some (.nils) := rfl
@[simp, go_sem] theorem zr_66 : tab.zr 66 = some (.nilfunc) := rfl
@[simp, go_sem] theorem zr_67 : tab.zr 67 = some (.nilfunc) := rfl
@[simp, go_sem] theorem zr_68 : tab.zr 68 = some (.nilfunc) := rfl
@[simp, go_sem] theorem zr_69 : tab.zr 69 = some (.nilmap) := rfl
@[simp, go_sem] theorem zr_70 : tab.zr 70 = some (.nilmap) := rfl
@[simp, go_sem] theorem zr_72 : tab.zr 72 = some (.nilfunc) := rfl
@[simp, go_sem] theorem zr_73 : tab.zr 73 = some (.nilfunc) := rfl
@[simp, go_sem] theorem zr_74 : tab.zr 74 = some (.nilfunc) := rfl
@[simp, go_sem] theorem zr_75 : tab.zr 75 = some (.nilfunc) := rfl
@[simp, go_sem] theorem zr_76 : tab.zr 76 = some (.nilfunc) := rfl
@[simp, go_sem] theorem zr_77 : tab.zr 77 = some (.nilfunc) := rfl
@[simp, go_sem] theorem zr_78 : tab.zr 78 = some (.nilfunc) := rfl
@[simp, go_sem] theorem zr_79 : tab.zr 79 = some (.nilfunc) := rfl
@[simp, go_sem] theorem zr_80 : tab.zr 80 = some (.nilfunc) := rfl
@[simp, go_sem] theorem zr_81 : tab.zr 81 = some (.nilfunc) := rfl
@[simp, go_sem] theorem zr_82 : tab.zr 82 = some (.nilfunc) := rfl
@[simp, go_sem] theorem zr_83 : tab.zr 83 = some (.nilfunc) := rfl
@[simp, go_sem] theorem zr_84 : tab.zr 84 = some (.nilfunc) := rfl
@[simp, go_sem] theorem zr_85 : tab.zr 85 = some (.nilfunc) := rfl
@[simp, go_sem] theorem zr_86 : tab.zr 86 = some (.nilfunc) := rfl
@[simp, go_sem] theorem zr_87 : tab.zr 87 = some (.nilfunc) := rfl
@[simp, go_sem] theorem zr_88 : tab.zr 88 = some (.nilfunc) := rfl
@[simp, go_sem] theorem zr_89 : tab.zr 89 = some (.nilfunc) := rfl
@[simp, go_sem] theorem zr_90 : tab.zr 90 = some (.nils) := rfl
@[simp, go_sem] theorem zr_91 : tab.zr 91 = some (.nilfunc) := rfl
@[simp, go_sem] theorem zr_92 : tab.zr 92 = some (.nilfunc) := rfl
@[simp, go_sem] theorem zr_93 : tab.zr 93 = some (.nilfunc) := rfl
@[simp, go_sem] theorem zr_94 : tab.zr 94 = some (.nilfunc) := rfl
@[simp, go_sem] theorem zr_95 : tab.zr 95 = some (.nilfunc) := rfl
@[simp, go_sem] theorem zr_96 : tab.zr 96 = some (.nilfunc) := rfl
@[simp, go_sem] theorem zr_98 : tab.zr 98 = some (.nilfunc) := rfl
@[simp, go_sem] theorem zr_99 : tab.zr 99 = some (.nilfunc) := rfl
@[simp, go_sem] theorem zr_100 : tab.zr 100 = some (.nilfunc) := rfl
@[simp, go_sem] theorem zr_101 : tab.zr 101 = some (.nilfunc) := rfl
@[simp, go_sem] theorem zr_102 : tab.zr 102 = some (.nilfunc) := rfl
@[simp, go_sem] theorem zr_103 : tab.zr 103 = some (.nilmap) := rfl
@[simp, go_sem] theorem zr_105 : tab.zr 105 = some (.nilfunc) := rfl
@[simp, go_sem] theorem zr_106 : tab.zr 106 = some (.nilfunc) := rfl
@[simp, go_sem] theorem zr_107 : tab.zr 107 = some (.nilfunc) := rfl
@[simp, go_sem] theorem zr_108 : tab.zr 108 = some (.agg [.int .i64 0, .str [], .str [], .str [], .int .i64 0, .nils, .nils]) := rfl
@[simp, go_sem] theorem zr_109 : tab.zr 109 = some (.agg [.int .i64 0, .str [], .str [], .str [], .int .i64 0, .nils, .nils]) := rfl
@[simp, go_sem] theorem zr_110 : tab.zr 110 = some (.nilfunc) := rfl
@[simp, go_sem] theorem zr_111 : tab.zr 111 = some (.nilfunc) := rfl
@[simp, go_sem] theorem zr_112 : tab.zr 112 = some (.nilfunc) := rfl
@[simp, go_sem] theorem zr_113 : tab.zr 113 = some (.nilfunc) := rfl
@[simp, go_sem] theorem zr_114 : tab.zr 114 = some (.nilfunc) := rfl
@[simp, go_sem] theorem zr_115 : tab.zr 115 = some (.nilfunc) := rfl
@[simp, go_sem] theorem zr_116 : tab.zr 116 = some (.nilfunc) := rfl
@[simp, go_sem] theorem zr_117 : tab.zr 117 = some (.nilfunc) := rfl
@[simp, go_sem] theorem zr_118 : tab.zr 118 = some (.int .u64 0) := rfl
@[simp, go_sem] theorem zr_119 : tab.zr 119 = some (.nilfunc) := rfl
@[simp, go_sem] theorem zr_120 : tab.zr 120 = some (.nilfunc) := rfl
@[simp, go_sem] theorem zr_121 : tab.zr 121 = some (.nilfunc) := rfl
@[simp, go_sem] theorem zr_122 : tab.zr 122 = some (.nilfunc) := rfl
@[simp, go_sem] theorem zr_123 : tab.zr 123 = some (.nilfunc) := rfl
@[simp, go_sem] theorem zr_124 : tab.zr 124 = some (.nilfunc) := rfl
@[simp, go_sem] theorem zr_125 : tab.zr 125 = some (.nilfunc) := rfl
@[simp, go_sem] theorem zr_126 : tab.zr 126 = some (.nilfunc) := rfl
@[simp, go_sem] theorem zr_127 : tab.zr 127 = some (.nilfunc) := rfl
@[simp, go_sem] theorem zr_128 : tab.zr 128 = some (.nilfunc) := rfl
@[simp, go_sem] theorem zr_129 : tab.zr 129 = some (.nilfunc) := rfl
@[simp, go_sem] theorem zr_130 : tab.zr 130 = some (.nilfunc) := rfl
@[simp, go_sem] theorem zr_131 : tab.zr 131 = some (.nilfunc) := rfl
@[simp, go_sem] theorem zr_132 : tab.zr 132 = some (.nilfunc) := rfl
@[simp, go_sem] theorem zr_133 : tab.zr 133 = some (.int .i64 0) := rfl
@[simp, go_sem] theorem zr_135 : tab.zr 135 = some (.nilfunc) := rfl
@[simp, go_sem] theorem zr_136 : tab.zr 136 = some (.nilfunc) := rfl
@[simp, go_sem] theorem zr_137 : tab.zr 137 = some (.nilfunc) := rfl
@[simp, go_sem] theorem zr_138 : tab.zr 138 = some (.nilfunc) := rfl
@[simp, go_sem] theorem zr_140 : tab.zr 140 = some (.nilfunc) := rfl
@[simp, go_sem] theorem zr_141 : tab.zr 141 = some (.nilfunc) := rfl
@[simp, go_sem] theorem zr_142 : tab.zr 142 = some (.int .u32 0) := rfl
@[simp, go_sem] theorem zr_143 : tab.zr 143 = some (.nilfunc) := rfl
@[simp, go_sem] theorem zr_144 : tab.zr 144 = some (.int .u64 0) := rfl
@[simp, go_sem] theorem zr_145 : tab.zr 145 = some (.nilptr) := rfl
@[simp, go_sem] theorem zr_146 : tab.zr 146 = some (.nilptr) := rfl
@[simp, go_sem] theorem zr_147 : tab.zr 147 = some (.agg [.nilptr, .nils]) := rfl
@[simp, go_sem] theorem zr_148 : tab.zr 148 = some (.agg [.nilptr, .nils]) := rfl
@[simp, go_sem] theorem zr_149 : tab.zr 149 = some (.agg [.nilptr, .nils]) := rfl
@[simp, go_sem] theorem zr_150 : tab.zr 150 = some (.agg [.nilptr, .nils]) := rfl
@[simp, go_sem] theorem zr_151 : tab.zr 151 = some (.nilfunc) := rfl
@[simp, go_sem] theorem zr_152 : tab.zr 152 = some (.nilfunc) := rfl
@[simp, go_sem] theorem zr_153 : tab.zr 153 = some (.nilfunc) := rfl
@[simp, go_sem] theorem zr_154 : tab.zr 154 = some (.nilfunc) := rfl
@[simp, go_sem] theorem zr_155 : tab.zr 155 = some (.nilfunc) := rfl
@[simp, go_sem] theorem zr_156 : tab.zr 156 = some (.nilfunc) := rfl
@[simp, go_sem] theorem zr_157 : tab.zr 157 = some (.nilfunc) := rfl
@[simp, go_sem] theorem zr_158 : tab.zr 158 = some (.nilfunc) := rfl
@[simp, go_sem] theorem zr_159 : tab.zr 159 = some (.nilfunc) := rfl
@[simp, go_sem] theorem zr_160 : tab.zr 160 = some (.nilfunc) := rfl
@[simp, go_sem] theorem zr_161 : tab.zr 161 = some (.int .u64 0) := rfl
@[simp, go_sem] theorem zr_162 : tab.zr 162 = some (.nilfunc) := rfl
@[simp, go_sem] theorem zr_163 : tab.zr 163 = some (.nilfunc) := rfl
@[simp, go_sem] theorem zr_164 : tab.zr 164 = some (.nilfunc) := rfl
@[simp, go_sem] theorem zr_165 : tab.zr 165 = some (.nilptr) := rfl
@[simp, go_sem] theorem zr_166 : tab.zr 166 = some (.nilfunc) := rfl
@[simp, go_sem] theorem zr_167 : tab.zr 167 = some (.nilfunc) := rfl
@[simp, go_sem] theorem zr_168 : tab.zr 168 = some (.niliface) := rfl
@[simp, go_sem] theorem zr_169 : tab.zr 169 = some (.niliface) := rfl
@[simp, go_sem] theorem zr_171 : tab.zr 171 = some (.nilfunc) := rfl
@[simp, go_sem] theorem zr_172 : tab.zr 172 = some (.nilfunc) := rfl
@[simp, go_sem] theorem zr_173 : tab.zr 173 = some (.nilptr) := rfl
@[simp, go_sem] theorem zr_174 : tab.zr 174 = some (.nilfunc) := rfl
@[simp, go_sem] theorem zr_175 : tab.zr 175 = some (.agg [.int .u8 0, .int .u8 0, .int .u8 0, .int .u8 0, .int .u8 0, .int .u8 0, .int .u8 0, .int .u8 0, .int .u8 0, .int .u8 0, .int .u8 0, .int .u8 0, .int .u8 0, .int .u8 0, .int .u8 0, .int .u8 0, .int .u8 0, .int .u8 0, .int .u8 0, .int .u8 0, .int .u8 0, .int .u8 0, .int .u8 0, .int .u8 0]) := rfl
@[simp, go_sem] theorem zr_176 : tab.zr 176 = some (.nilfunc) := rfl
@[simp, go_sem] theorem zr_178 : tab.zr 178 = some (.nilfunc) := rfl
@[simp, go_sem] theorem zr_179 : tab.zr 179 = some (.nilfunc) := rfl
@[simp, go_sem] theorem zr_180 : tab.zr 180 = some (.nilfunc) := rfl
@[simp, go_sem] theorem zr_181 : tab.zr 181 = some (.nilfunc) := rfl
@[simp, go_sem] theorem zr_182 : tab.zr 182 = some (.nilptr) := rfl
@[simp, go_sem] theorem zr_184 : tab.zr 184 = some (.nilfunc) := rfl
@[simp, go_sem] theorem zr_185 : tab.zr 185 = some (.nilfunc) := rfl
@[simp, go_sem] theorem zr_186 : tab.zr 186 = some (.agg [.int .u64 0, .int .u64 0, .int .u64 0, .int .u64 0, .int .u64 0, .int .u64 0, .int .u64 0, .int .u64 0, .int .u64 0, .int .u64 0, .int .u64 0, .int .u64 0, .int .u64 0, .int .u64 0, .int .u64 0, .int .u64 0, .int .u64 0, .int .u64 0, .int .u64 0, .int .u64 0]) := rfl
@[simp, go_sem] theorem zr_188 : tab.zr 188 = some (.nilfunc) := rfl
@[simp, go_sem] theorem zr_189 : tab.zr 189 = some (.nilfunc) := rfl
@[simp, go_sem] theorem zr_191 : tab.zr 191 = some (.nilfunc) := rfl
@[simp, go_sem] theorem zr_192 : tab.zr 192 = some (.nilfunc) := rfl
@[simp, go_sem] theorem zr_194 : tab.zr 194 = some (.nilfunc) := rfl
@[simp, go_sem] theorem zr_196 : tab.zr 196 = some (.nilfunc) := rfl
@[simp, go_sem] theorem zr_197 : tab.zr 197 = some (.agg [.int .u8 0, .int .u8 0, .int .u8 0, .int .u8 0, .int .u8 0, .int .u8 0, .int .u8 0, .int .u8 0, .int .u8 0, .int .u8 0, .int .u8 0, .int .u8 0, .int .u8 0, .int .u8 0, .int .u8 0, .int .u8 0, .int .u8 0, .int .u8 0, .int .u8 0, .int .u8 0, .int .u8 0, .int .u8 0, .int .u8 0, .int .u8 0, .int .u8 0, .int .u8 0, .int .u8 0, .int .u8 0, .int .u8 0, .int .u8 0, .int .u8 0, .int .u8 0]) := rfl
@[simp, go_sem] theorem zr_200 : tab.zr 200 = some (.agg [.int .u8 0, .int .u8 0]) := rfl
@[simp, go_sem] theorem zr_201 : tab.zr 201 = some (.agg [.int .u8 0, .int .u8 0]) := rfl
@[simp, go_sem] theorem zr_202 : tab.zr 202 = some (.agg [.int .u8 0, .int .u8 0, .int .u8 0, .int .u8 0, .int .u8 0, .int .u8 0, .int .u8 0, .int .u8 0, .int .u8 0, .int .u8 0, .int .u8 0, .int .u8 0, .int .u8 0, .int .u8 0, .int .u8 0, .int .u8 0, .int .u8 0, .int .u8 0, .int .u8 0, .int .u8 0, .int .u8 0, .int .u8 0, .int .u8 0, .int .u8 0, .int .u8 0, .int .u8 0, .int .u8 0, .int .u8 0, .int .u8 0, .int .u8 0, .int .u8 0, .int .u8 0]) := rfl
@[simp, go_sem] theorem zr_204 : tab.zr 204 = some (.nilfunc) := rfl
@[simp, go_sem] theorem zr_205 : tab.zr 205 = some (.agg [.nilptr, .nilptr, .nilptr, .str []]) := rfl
@[simp, go_sem] theorem zr_206 : tab.zr 206 = some (.agg [.nilptr, .nilptr, .nilptr, .str []]) := rfl
@[simp, go_sem] theorem zr_210 : tab.zr 210 = some (.nilfunc) := rfl
@[simp, go_sem] theorem zr_211 : tab.zr 211 = some (.int .u8 0) := rfl
@[simp, go_sem] theorem zr_212 : tab.zr 212 = some (.int .u8 0) := rfl
@[simp, go_sem] theorem zr_213 : tab.zr 213 = some (.nilfunc) := rfl
@[simp, go_sem] theorem zr_214 : tab.zr 214 = some (.int .i32 0) := rfl
@[simp, go_sem] theorem zr_215 : tab.zr 215 = some (.int .i32 0) := rfl
@[simp, go_sem] theorem zr_216 : tab.zr 216 = some (.agg [.int .u64 0, .int .u64 0, .int .u32 0, .int .u8 0, .int .u8 0, .int .u8 0, .int .u8 0, .nilfunc, .nilptr, .int .i32 0, .int .i32 0]) := rfl
@[simp, go_sem] theorem zr_217 : tab.zr 217 = some (.agg [.int .u64 0, .int .u64 0, .int .u32 0, .int .u8 0, .int .u8 0, .int .u8 0, .int .u8 0, .nilfunc, .nilptr, .int .i32 0, .int .i32 0]) := rfl
@[simp, go_sem] theorem fl_7 : tab.fl 7 = some [(0, 1), (1, 1), (2, 1), (3, 1)] := rfl
@[simp, go_sem] theorem fl_8 : tab.fl 8 = some [(0, 1), (1, 1), (2, 1), (3, 1)] := rfl
@[simp, go_sem] theorem fl_13 : tab.fl 13 = some [(0, 1), (1, 1)] := rfl
@[simp, go_sem] theorem fl_14 : tab.fl 14 = some [(0, 1), (1, 1)] := rfl
@[simp, go_sem] theorem fl_18 : tab.fl 18 = some [(0, 1)] := rfl
@[simp, go_sem] theorem fl_19 : tab.fl 19 = some [(0, 1)] := rfl
@[simp, go_sem] theorem fl_25 : tab.fl 25 = some [(0, 1), (1, 1), (2, 1), (3, 1), (4, 1)] := rfl
@[simp, go_sem] theorem fl_26 : tab.fl 26 = some [(0, 1), (1, 1), (2, 1), (3, 1), (4, 1)] := rfl
@[simp, go_sem] theorem fl_44 : tab.fl 44 = some [(0, 1), (1, 1), (2, 1)] := rfl
@[simp, go_sem] theorem fl_45 : tab.fl 45 = some [(0, 1), (1, 1), (2, 1)] := rfl
@[simp, go_sem] theorem fl_108 : tab.fl 108 = some [(0, 1), (1, 1), (2, 1), (3, 1), (4, 1), (5, 1), (6, 1)] := rfl
@[simp, go_sem] theorem fl_109 : tab.fl 109 = some [(0, 1), (1, 1), (2, 1), (3, 1), (4, 1), (5, 1), (6, 1)] := rfl
@[simp, go_sem] theorem fl_147 : tab.fl 147 = some [(0, 1), (1, 1)] := rfl
@[simp, go_sem] theorem fl_148 : tab.fl 148 = some [(0, 1), (1, 1)] := rfl
@[simp, go_sem] theorem fl_149 : tab.fl 149 = some [(0, 2)] := rfl
@[simp, go_sem] theorem fl_150 : tab.fl 150 = some [(0, 2)] := rfl
@[simp, go_sem] theorem fl_200 : tab.fl 200 = some [(0, 1), (1, 1)] := rfl
@[simp, go_sem] theorem fl_201 : tab.fl 201 = some [(0, 1), (1, 1)] := rfl
@[simp, go_sem] theorem fl_205 : tab.fl 205 = some [(0, 1), (1, 1), (2, 1), (3, 1)] := rfl
@[simp, go_sem] theorem fl_206 : tab.fl 206 = some [(0, 1), (1, 1), (2, 1), (3, 1)] := rfl
@[simp, go_sem] theorem fl_208 : tab.fl 208 = some [(0, 0)] := rfl
@[simp, go_sem] theorem fl_209 : tab.fl 209 = some [(0, 0)] := rfl
@[simp, go_sem] theorem fl_216 : tab.fl 216 = some [(0, 1), (1, 1), (2, 1), (3, 1), (4, 1), (5, 1), (6, 1), (7, 1), (8, 1), (9, 1), (10, 1)] := rfl
@[simp, go_sem] theorem fl_217 : tab.fl 217 = some [(0, 1), (1, 1), (2, 1), (3, 1), (4, 1), (5, 1), (6, 1), (7, 1), (8, 1), (9, 1), (10, 1)] := rfl
end Go.Proofs.YtnobnefabagbhaaGreatDoor.Q
end

section
/- The logic 'Q': the engine's rules for the rewriter. -/
namespace Go.Q
attribute [go_sem] vsgo appEff effAt mapE inStage decide_false zcells vgoK vgo vguard vop veff rdo ev ofConst wrapg putE dstOk get keepE asList vlen vbin vcells vload cellsOf vfield vfieldAddr vindexAddr vindex vun vconv vslice vfill vbuild vpick vnil vcall
 vparts velems killE killH killO kill killL clean cleanL viewV packV argsOf owed owedO entryEnv encB ren renL renO renE posIn backIn viewIn heapOut setAll keepMoved nodupB below trimH resOne resAll pack1V packR frz frzL frzE frzO frzH vdgo tms opTmps opnds tmpsOf Option.toList_some Option.toList_none Op.operands
attribute [go_sem] unB_map toNat_succ Int.reduceToNat List.length_map Nat.reduceLeDiff Nat.zero_le Int.toNat_natCast cond_true cond_false Option.map_some Option.map_none List.map_cons List.map_nil List.getElem?_toArray List.getElem?_cons_zero List.getElem?_cons_succ List.length_cons List.length_nil List.take_succ_cons List.take_zero List.take_nil
 List.drop_succ_cons List.drop_zero List.drop_nil List.cons_append List.nil_append List.append_nil List.set_cons_zero List.all_cons List.all_nil List.contains_cons List.contains_nil List.getD_cons_zero List.getD_cons_succ List.set_cons_succ
 true_and and_true and_self Bool.and_true Bool.true_and Bool.not_true Bool.not_false Nat.reduceBEq Nat.reduceLT Nat.reduceAdd Nat.zero_add Nat.add_zero decide_true forall_const implies_true true_implies Option.isSome_some Option.bind_some Option.bind_none Option.getD_some Option.getD_none Bool.and_false Bool.false_and Bool.or_true Bool.true_or Bool.or_false Bool.false_or
end Go.Q
end

section
/- The logic 'Q': contracts of Go's library, as contracts of this logic. -/
namespace Go.Proofs.YtnobnefabagbhaaGreatDoor.Q
open Go Go.Q
open Go.RowKit (Below)
def globOf (Facts : World → Prop) : Glob := {
 G F w := ∃ N, (∀ b, b < N → F b) ∧ ∀ w', (∀ b, b < N → w'.heap[b]? = w.heap[b]?) → Facts w'
 stable F w F' w' hF hs h := by
  obtain ⟨N, h1, h2⟩ := h
  exact ⟨N, fun b hb => hF b (h1 b hb), fun w2 h3 => h2 w2 fun b hb => (h3 b hb).trans (hs b (h1 b hb))⟩ }
structure Base (w : World) : Prop where
 maxLen : ∃ m, w.cell? ⟨0, 0, none⟩ = some (.int .i64 m)
 pow10 : Lib.TabIs Go.Proofs.Tryz.prog w "internal/strconv.uint64pow10" .u64 Lib.pow10Tab
noncomputable def G : Glob := globOf Base
theorem glob_here {F : Nat → Prop} {w : World} (h : G.G F w) : Base w := by
 obtain ⟨N, _, h2⟩ := h
 exact h2 w fun _ _ => rfl
theorem vpure_same {P : Program} {G : Glob} {f : FuncId} {args : List V} {r : V} (h : ∀ F w (ms : List Value), RelL F [] w args ms → G.G F w → ∃ mr, Rel F [] w r mr ∧ Calls P f ms.toArray w fun e w' => e = .returned mr ∧ Below w.heap.size w w') : VPure P G f args r := by
 intro F w ms hr hF hG
 obtain ⟨mr, h1, h2⟩ := h F w ms hr hG
 refine h2.mono ?_
 rintro e w' ⟨rfl, hb⟩
 exact ⟨mr, rfl, Rel.goes ⟨fun _ h => .inl h, fun b hb' => hb.block b (hF b hb'), fun _ _ h => h⟩ _ _ h1, hb⟩
theorem str2 {F : Nat → Prop} {ρ : List Value} {w : World} {s t : List UInt8} {ms : List Value} (h : RelL F ρ w [.str s, .str t] ms) : ms = [.string ⟨s.toArray⟩, .string ⟨t.toArray⟩] ∧ s.length ≤ maxB ∧ t.length ≤ maxB := by
 simp only [RelL, Rel] at h
 obtain ⟨u, t, rfl, ⟨rfl, h1⟩, u', t', rfl, ⟨rfl, h2⟩, rfl⟩ := h
 exact ⟨rfl, h1, h2⟩
theorem b_strconv_Itoa : bodied Go.Proofs.Tryz.prog 81 = true := by rw [bodied, Tryz.func81]; rfl
theorem c_Itoa (n : Int) (h : in64 n) : VPure Go.Proofs.Tryz.prog G 81 [.int .i64 n] (.str (Lib.itoa n)) := by
 refine vpure_same fun F w ms hr hG => ⟨.string ⟨(Lib.itoa n).toArray⟩, ?_, ?_⟩
 ·simp only [Rel]
  have := Lib.itoa_length_le n h.1 h.2
  exact ⟨trivial, by unfold maxB; omega⟩
 ·simp only [RelL, Rel] at hr
  obtain ⟨u, t, rfl, rfl, rfl⟩ := hr
  refine (Tryz.strconv_Itoa n h.1 h.2 w (glob_here hG).pow10).mono ?_
  rintro e w' ⟨rfl, k, os, rfl⟩
  exact ⟨rfl, Lib.below_grow _ w (Nat.le_refl _) k os⟩
theorem b_strings_Contains : bodied Go.Proofs.Tryz.prog 188 = true := by rw [bodied, Tryz.func188]; rfl
theorem indexByte_nonneg (s : List UInt8) (c : UInt8) : decide (0 ≤ Lib.indexByte s c) = s.contains c := by
 induction s with
 | nil => simp [Lib.indexByte]
 | cons b s ih =>
  have := Lib.indexByte_ge s c
  simp only [Lib.indexByte, List.contains_cons]
  by_cases h : b == c
  ·have h2 : (c == b) = true := by rw [eq_of_beq h]; simp
   simp [h, h2]
  ·have h2 : (c == b) = false := by
    cases hc : (c == b)
    ·rfl
    ·exact absurd (by rw [eq_of_beq hc]; simp) h
   simp only [h, h2, Bool.false_or, if_false, ← ih]
   by_cases h1 : Lib.indexByte s c = -1
   ·simp [h1]
   ·have hb : (Lib.indexByte s c == -1) = false := by simpa using h1
    simp only [hb, Bool.false_eq_true, if_false]
    congr 1
    apply propext; omega
theorem c_Contains (s : List UInt8) (c : UInt8) : VPure Go.Proofs.Tryz.prog G 188 [.str s, .str [c]] (.bool (s.contains c)) := by
 refine vpure_same fun F w ms hr hG => ⟨.bool (s.contains c), by simp only [Rel], ?_⟩
 obtain ⟨rfl, _, _⟩ := str2 hr
 refine (Tryz.strings_Contains_one ⟨s.toArray⟩ c w).mono ?_
 rintro e w' ⟨rfl, rfl⟩
 refine ⟨?_, Below.refl _ _⟩
 rw [indexByte_nonneg]
theorem b_strings_CutPrefix : bodied Go.Proofs.Tryz.prog 201 = true := by rw [bodied, Tryz.func201]; rfl
theorem c_CutPrefix (s t : List UInt8) : VPure Go.Proofs.Tryz.prog G 201 [.str s, .str t] (.tuple [.str (Lib.trimPrefix s t), .bool (Lib.hasPrefix s t)]) := by
 refine vpure_same fun F w ms hr hG => ?_
 obtain ⟨rfl, h1, h2⟩ := str2 hr
 refine ⟨.tuple #[.string ⟨(Lib.trimPrefix s t).toArray⟩, .bool (Lib.hasPrefix s t)], ?_, ?_⟩
 ·simp only [Rel, RelL]
  refine ⟨_, rfl, _, _, rfl, ⟨rfl, ?_⟩, _, _, rfl, rfl, rfl⟩
  unfold Lib.trimPrefix
  split
  ·rw [List.length_drop]; omega
  ·exact h1
 ·refine (Tryz.strings_CutPrefix ⟨s.toArray⟩ ⟨t.toArray⟩ w).mono ?_
  rintro e w' ⟨rfl, rfl⟩
  exact ⟨rfl, Below.refl _ _⟩
theorem b_strings_ContainsRune : bodied Go.Proofs.Tryz.prog 59 = true := by rw [bodied, Tryz.func59]; rfl
theorem mixed : Go.Proofs.Tryz.prog.follows .mixedOrders = true := by kernel_rfl
end Go.Proofs.YtnobnefabagbhaaGreatDoor.Q
end

section
/- Short forms of rules that are used often: what is alike each time is found by itself. -/
namespace Go.Proofs.YtnobnefabagbhaaGreatDoor.Q
open Go Go.Q
theorem oG {p : Par} {env : Env} {H : List Go.Q.Obj} {Q : Post} {ops : Array Oper} (own : List Nat) {l rest : List Oper} {env' : Env} {H' : List Go.Q.Obj} {O : Prop} (h : VOps p ops rest Q env' H')
  (hT : tab.Ok p.P := by exact tabOk) (he : vgo tab p own ops l env H = (env', H', O, rest) := by simp only [go_sem]; rfl) (hO : O := by first | trivial | (simp; done) | (simp [in64]; omega)) : VOps p ops l Q env H := vops_go hT own he hO h
theorem oL {p : Par} {env : Env} {H : List Go.Q.Obj} {Q : Post} {ops : Array Oper} (own : List Nat) {l rest : List Oper} {env' : Env} {H' : List Go.Q.Obj} {O : Prop} (h : VOps p ops rest Q env' H')
  (hT : tab.Ok p.P := by exact tabOk) (he : vgo tab p own ops l env H = (env', H', O, rest) := by simp only [go_sem, List.getElem?_nil]; rfl) (hO : O := by first | trivial | (simp; done) | (simp [in64]; omega)) : VOps p ops l Q env H := vops_go hT own he hO h
theorem oR {p : Par} {env : Env} {H : List Go.Q.Obj} {Q : Post} {ops : Array Oper} (K : List Nat) {id : Nat} {y : Code} {env' : Env} {H' : List Go.Q.Obj} {O : Prop} (hy : VWp p y Q env' H')
  (hT : tab.Ok p.P := by exact tabOk) (he : vgoK tab p [] K ops env H = (env', H', O, []) := by simp only [go_sem]; rfl) (hO : O := by first | trivial | (simp; done) | (simp [in64]; omega)) : VWp p (.seq (.region id ops false) y) Q env H := vwp_reg hT [] K he hO hy
theorem oB {p : Par} {env : Env} {H : List Go.Q.Obj} {Q : Post} {c : Operand} {x y : Code} {b : Bool} (ht : b = true → VWp p x Q env H) (hf : b = false → VWp p y Q env H) (hc : ev env c = .bool b := by simp only [go_sem]; rfl) : VWp p (.cond c x y) Q env H := vwp_cond hc ht hf
theorem oC {p : Par} {env : Env} {H : List Go.Q.Obj} {Q : Post} {ops : Array Oper} {o : Oper} {rest : List Oper} {f : FuncId} {args : Array Operand} {ats : Array TypeId} {g : Bool} {r : V} {vs : List V} (hc : g = true → VPure p.P p.glob f vs r) (hb : bodied p.P f = true) (h : VOps p ops rest Q (putE o.dst (wrapg o g r) env) H)
  (ho : o.op = .call { callee := .value (.func f), args, argTypes := ats } := by rfl) (hg : vguard ops env o = some g := by simp only [go_sem]; rfl) (hd : dstOk p.n o.dst = true := by rfl) (hvs : WkL (argsOf g env args.toList) vs := by simp only [go_sem]; exact WkL.refl _) (hcl : cleanL vs = true := by rfl)
  (how : g = true → owed g env args.toList := by intro hg; simp only [go_sem]; try (intros; first | assumption | trivial | simp_all)) : VOps p ops (o :: rest) Q env H := vops_call ho hg hd hb hvs hcl how hc h
theorem wC {k : Nat} {v v' : V} {r r' : Env} (hr : Env.wk r r') (h : Wk v' v := by first | exact Wk.refl _ | exact Wk.nils _ | (refine Wk.eq ?_; simp; done) | (refine Wk.eq ?_; congr 1 <;> omega)) : Env.wk ((k, v) :: r) ((k, v') :: r') := Env.wk_cons h hr
end Go.Proofs.YtnobnefabagbhaaGreatDoor.Q
end

section
/- Walks of the program's small functions on texts, in the logic 'Q'. -/
namespace Go.Proofs.YtnobnefabagbhaaGreatDoor.Q
open Go Go.Q
theorem b_ref13_Label : bodied Go.Proofs.Tryz.prog 25 = true := by rw [bodied, Tryz.func25]; rfl
theorem c_ref13_Label (s : List UInt8) : VPure Go.Proofs.Tryz.prog G 25 [.str s] (.bool (labelB s)) := by
 refine vpure_know fun hk => ?_
 simp only [factsL, facts, maxB] at hk
 refine vpure_of (ts := [2]) Tryz.func25 rfl (by simp [Tryz.ntmps25]) rfl rfl ?_
 rw [Tryz.ntmps25]
 refine oR [0] ?_
 refine vwp_seq ?_
 refine oR [0, 3] ?_
 refine vwp_block ?_
 refine vwp_loopW (fun i : Nat => [(0, .str s), (3, .int .i64 (i : Int))]) (fun i => []) (fun i => i ≤ s.length ∧ (s.take i).all okL = true) (fun i => s.length - i) 0 ⟨Nat.zero_le _, by simp⟩ (wC (wC (Env.wk_nil _))) rfl ?_
 rintro i ⟨hi, hok⟩
 refine vwp_seq ?_
 refine oR [0, 3, 8] ?_
 refine oB (fun h0 => ?_) fun h0 => ?_
 ·
  have h0' : i < s.length := by simp at h0; omega
  refine vwp_skip ?_
  try simp only [thenQ, blockQ, jumpQ, stayQ]
  refine vwp_seq ?_
  refine vwp_block ?_
  refine oR [0, 3, 4] ?_
  refine oR [0, 3, 35] ?_
  refine oB (fun h1 => ?_) fun h1 => ?_
  ·
   refine oR [2] ?_
   refine vwp_ret ?_
   simp only [thenQ, blockQ, jumpQ, stayQ, RetQ, go_sem]
   refine ⟨by simp, Wk.eq ?_⟩
   rw [labelB, not_all okL s i h0' (by simp [okL, List.getD, h0'] at h1 ⊢; omega)]; rfl
  ·
   refine vwp_skip ?_
   try simp only [thenQ, blockQ, jumpQ, stayQ]
   refine vwp_reg1 tabOk [] [0, 3] (by simp only [go_sem]; rfl) (by first | trivial | (simp; done) | (simp [in64]; omega)) ?_
   try simp only [thenQ, blockQ, jumpQ, stayQ]
   exact ⟨i + 1, ⟨by omega, by rw [take_all okL s i h0', hok]; simp [okL, List.getD, h0'] at h1 ⊢; omega⟩, by omega, (wC (wC (Env.wk_nil _))), (by first | rfl | trivial)⟩
 ·
  refine vwp_exit ?_
  simp only [thenQ, blockQ, jumpQ, stayQ, if_true, reduceIte, Nat.reduceEqDiff]
  refine oR [2] ?_
  refine vwp_ret ?_
  simp only [thenQ, blockQ, jumpQ, stayQ, RetQ, go_sem]
  refine ⟨by simp, Wk.eq ?_⟩
  have : i = s.length := by simp at h0; omega
  subst this; rw [List.take_length] at hok; rw [labelB, hok]; congr 1; rw [Bool.eq_iff_iff]; simp; omega
theorem b_ref04_part : bodied Go.Proofs.Tryz.prog 173 = true := by rw [bodied, Tryz.func173]; rfl
theorem c_ref04_part (s : List UInt8) : VPure Go.Proofs.Tryz.prog G 173 [.str s] (.bool (partB s)) := by
 refine vpure_know fun hk => ?_
 simp only [factsL, facts, maxB] at hk
 refine vpure_of (ts := [2]) Tryz.func173 rfl (by simp [Tryz.ntmps173]) rfl rfl ?_
 rw [Tryz.ntmps173]
 refine oR [0] ?_
 refine vwp_seq ?_
 refine oR [0, 20] ?_
 refine oB (fun h0 => ?_) fun h0 => ?_
 ·
  refine oR [2] ?_
  refine vwp_ret ?_
  simp only [thenQ, blockQ, jumpQ, stayQ, RetQ, go_sem]
  refine ⟨by simp, Wk.eq ?_⟩
  congr 1; rw [partB]; symm; rw [Bool.and_eq_false_iff]; right; rw [Bool.eq_false_iff]; simp at h0 ⊢; intro a b; rcases h0 with ((h0 | h0) | h0) | h0 <;> first | omega | exact fun h => absurd h0 h | exact fun _ => h0
 ·
  refine vwp_skip ?_
  try simp only [thenQ, blockQ, jumpQ, stayQ]
  refine vwp_seq ?_
  refine oR [0, 3] ?_
  refine vwp_block ?_
  refine vwp_loopW (fun i : Nat => [(0, .str s), (3, .int .i64 (i : Int))]) (fun i => []) (fun i => i ≤ s.length ∧ (s.take i).all okP = true) (fun i => s.length - i) 0 ⟨Nat.zero_le _, by simp⟩ (wC (wC (Env.wk_nil _))) rfl ?_
  rintro i ⟨hi, hok⟩
  refine vwp_seq ?_
  refine oR [0, 3, 24] ?_
  refine oB (fun h1 => ?_) fun h1 => ?_
  ·
   have h1' : i < s.length := by simp at h1; omega
   refine vwp_skip ?_
   try simp only [thenQ, blockQ, jumpQ, stayQ]
   refine vwp_seq ?_
   refine vwp_block ?_
   refine oR [0, 3, 4] ?_
   refine oR [0, 3, 55] ?_
   refine oB (fun h2 => ?_) fun h2 => ?_
   ·
    refine oR [2] ?_
    refine vwp_ret ?_
    simp only [thenQ, blockQ, jumpQ, stayQ, RetQ, go_sem]
    refine ⟨by simp, Wk.eq ?_⟩
    rw [partB, not_all okP s i h1' (by simp [okP, List.getD, h1'] at h2 ⊢; omega)]; rfl
   ·
    refine vwp_skip ?_
    try simp only [thenQ, blockQ, jumpQ, stayQ]
    refine vwp_reg1 tabOk [] [0, 3] (by simp only [go_sem]; rfl) (by first | trivial | (simp; done) | (simp [in64]; omega)) ?_
    try simp only [thenQ, blockQ, jumpQ, stayQ]
    exact ⟨i + 1, ⟨by omega, by rw [take_all okP s i h1', hok]; simp [okP, List.getD, h1'] at h2 ⊢; omega⟩, by omega, (wC (wC (Env.wk_nil _))), (by first | rfl | trivial)⟩
  ·
   refine vwp_exit ?_
   simp only [thenQ, blockQ, jumpQ, stayQ, if_true, reduceIte, Nat.reduceEqDiff]
   refine oR [2] ?_
   refine vwp_ret ?_
   simp only [thenQ, blockQ, jumpQ, stayQ, RetQ, go_sem]
   refine ⟨by simp, Wk.eq ?_⟩
   have : i = s.length := by simp at h1; omega
   subst this; rw [List.take_length] at hok; rw [partB, hok]; simp at h0; congr 1; symm; simp [h0]; omega
theorem b_ref04_Within : bodied Go.Proofs.Tryz.prog 175 = true := by rw [bodied, Tryz.func175]; rfl
theorem c_ref04_Within (p q : List UInt8) : VPure Go.Proofs.Tryz.prog G 175 [.str p, .str q] (.bool (withinB p q)) := by
 refine vpure_know fun hk => ?_
 simp only [factsL, facts, maxB] at hk
 refine vpure_of (ts := [4]) Tryz.func175 rfl (by simp [Tryz.ntmps175]) rfl rfl ?_
 rw [Tryz.ntmps175]
 refine oR [0, 1] ?_
 refine vwp_reg tabOk [] [4] (by simp only [go_sem]; rfl) (by simp; omega) ?_
 refine vwp_ret ?_
 simp only [thenQ, blockQ, jumpQ, stayQ, RetQ, go_sem]
 refine ⟨by simp, Wk.eq ?_⟩
 congr 1; rw [withinB]; by_cases h1 : p = q
 ·simp [h1]
 ·by_cases h2 : q.length < p.length
  ·simp [h1, h2]
   simp only [u8_47]
  ·simp [h1, h2]
theorem b_ref04_Apart : bodied Go.Proofs.Tryz.prog 142 = true := by rw [bodied, Tryz.func142]; rfl
theorem c_ref04_Apart (p q : List UInt8) : VPure Go.Proofs.Tryz.prog G 142 [.str p, .str q] (.bool (apartB p q)) := by
 refine vpure_of (ts := [4]) Tryz.func142 rfl (by simp [Tryz.ntmps142]) rfl rfl ?_
 rw [Tryz.ntmps142]
 refine oR [0, 1] ?_
 refine vwp_seq (vwp_region ?_)
 refine oG [] ?_
 refine oC (fun _ => c_ref04_Within p q) b_ref04_Within ?_
 simp only [go_sem]
 refine oG [] ?_
 refine oC (fun _ => c_ref04_Within q p) b_ref04_Within ?_
 simp only [go_sem]
 refine oG [] ?_
 refine vops_done [4] ?_
 simp only [go_sem, thenQ, blockQ, jumpQ, stayQ]
 refine vwp_ret ?_
 simp only [thenQ, blockQ, jumpQ, stayQ, RetQ, go_sem]
 refine ⟨by simp, Wk.eq ?_⟩
 rw [apartB]; cases withinB p q <;> rfl
theorem b_ref05_in : bodied Go.Proofs.Tryz.prog 174 = true := by rw [bodied, Tryz.func174]; rfl
theorem c_ref05_in (c : UInt8) : VPure Go.Proofs.Tryz.prog G 174 [.int .u8 (c.toNat : Int)] (.bool (okT c)) := by
 refine vpure_of (ts := [2]) Tryz.func174 rfl (by simp [Tryz.ntmps174]) rfl rfl ?_
 rw [Tryz.ntmps174]
 refine oR [0] ?_
 refine oR [2] ?_
 refine vwp_ret ?_
 simp only [thenQ, blockQ, jumpQ, stayQ, RetQ, go_sem]
 refine ⟨by simp, Wk.eq ?_⟩
 congr 1; rw [okT, Bool.eq_iff_iff]; simp; omega
theorem b_ref05_Token : bodied Go.Proofs.Tryz.prog 141 = true := by rw [bodied, Tryz.func141]; rfl
theorem c_ref05_Token (s : List UInt8) : VPure Go.Proofs.Tryz.prog G 141 [.str s] (.bool (tokenB s)) := by
 refine vpure_know fun hk => ?_
 simp only [factsL, facts, maxB] at hk
 refine vpure_of (ts := [2]) Tryz.func141 rfl (by simp [Tryz.ntmps141]) rfl rfl ?_
 rw [Tryz.ntmps141]
 refine oR [0] ?_
 refine vwp_seq ?_
 refine oR [0, 3] ?_
 refine vwp_block ?_
 refine vwp_loopW (fun i : Nat => [(0, .str s), (3, .int .i64 (i : Int))]) (fun i => []) (fun i => i ≤ s.length ∧ (s.take i).all okT = true) (fun i => s.length - i) 0 ⟨Nat.zero_le _, by simp⟩ (wC (wC (Env.wk_nil _))) rfl ?_
 rintro i ⟨hi, hok⟩
 refine vwp_seq ?_
 refine oR [0, 3, 7] ?_
 refine oB (fun h0 => ?_) fun h0 => ?_
 ·
  have h0' : i < s.length := by simp at h0; omega
  refine vwp_skip ?_
  try simp only [thenQ, blockQ, jumpQ, stayQ]
  refine vwp_seq ?_
  refine vwp_block ?_
  refine vwp_seq (vwp_region ?_)
  refine oG [] ?_
  refine oC (fun _ => c_ref05_in (s.getD (i : Int).toNat 0)) b_ref05_in ?_
  simp only [go_sem]
  refine oG [] ?_
  refine vops_done [0, 3, 14] ?_
  simp only [go_sem, thenQ, blockQ, jumpQ, stayQ]
  refine oB (fun h1 => ?_) fun h1 => ?_
  ·
   refine oR [2] ?_
   refine vwp_ret ?_
   simp only [thenQ, blockQ, jumpQ, stayQ, RetQ, go_sem]
   refine ⟨by simp, Wk.eq ?_⟩
   rw [tokenB, not_all okT s i h0' (by simp [List.getD, h0'] at h1 ⊢; exact h1)]; rfl
  ·
   refine vwp_skip ?_
   try simp only [thenQ, blockQ, jumpQ, stayQ]
   refine vwp_reg1 tabOk [] [0, 3] (by simp only [go_sem]; rfl) (by first | trivial | (simp; done) | (simp [in64]; omega)) ?_
   try simp only [thenQ, blockQ, jumpQ, stayQ]
   exact ⟨i + 1, ⟨by omega, by rw [take_all okT s i h0', hok]; simp [List.getD, h0'] at h1 ⊢; exact h1⟩, by omega, (wC (wC (Env.wk_nil _))), (by first | rfl | trivial)⟩
 ·
  refine vwp_exit ?_
  simp only [thenQ, blockQ, jumpQ, stayQ, if_true, reduceIte, Nat.reduceEqDiff]
  refine oR [2] ?_
  refine vwp_ret ?_
  simp only [thenQ, blockQ, jumpQ, stayQ, RetQ, go_sem]
  refine ⟨by simp, Wk.eq ?_⟩
  have : i = s.length := by simp at h0; omega
  subst this; rw [List.take_length] at hok; rw [tokenB, hok]; congr 1; rw [Bool.true_and]; exact decide_eq_decide.2 (by omega)
theorem b_ref05_Right : bodied Go.Proofs.Tryz.prog 140 = true := by rw [bodied, Tryz.func140]; rfl
theorem c_ref05_Right (l : List (List UInt8)) : VPure Go.Proofs.Tryz.prog G 140 [.list 1 (l.map cS)] (.bool (linesB l)) := by
 refine vpure_know fun hk => ?_
 simp only [factsL, facts, maxB, List.length_map] at hk
 refine vpure_of (ts := [2]) Tryz.func140 rfl (by simp [Tryz.ntmps140]) rfl rfl ?_
 rw [Tryz.ntmps140]
 refine oR [0] ?_
 refine vwp_seq ?_
 refine oR [0, 3] ?_
 refine vwp_block ?_
 refine vwp_loopW (fun i : Nat => [(0, .list 1 (l.map cS)), (3, .int .i64 (i : Int))]) (fun i => []) (fun i => i ≤ l.length ∧ (l.take i).all lineB = true) (fun i => l.length - i) 0 ⟨Nat.zero_le _, by simp⟩ (wC (wC (Env.wk_nil _))) rfl ?_
 rintro i ⟨hi, hok⟩
 refine vwp_seq ?_
 refine vwp_reg tabOk [] [0, 3, 8] (by simp only [go_sem, List.length_map]; rfl) (by first | trivial | (simp; done) | (simp [in64]; omega)) ?_
 refine oB (fun h0 => ?_) fun h0 => ?_
 ·
  have hi' : i < l.length := by simp at h0; omega
  refine vwp_skip ?_
  try simp only [thenQ, blockQ, jumpQ, stayQ]
  refine vwp_seq ?_
  refine vwp_block ?_
  refine oR [0, 3, 4] ?_
  refine vwp_block ?_
  refine vwp_loopW (fun k : Nat => [(0, .list 1 (l.map cS)), (3, .int .i64 (i : Int)), (4, .int .i64 (k : Int))]) (fun k => []) (fun k => k ≤ l[i].length ∧ (l[i].take k).all (fun c => !decide (c = 10)) = true) (fun k => l[i].length - k) 0 ⟨Nat.zero_le _, by simp⟩ (wC (wC (wC (Env.wk_nil _)))) rfl ?_
  rintro k ⟨hk1, hok2⟩
  refine vwp_seq ?_
  refine vwp_reg tabOk [] [0, 3, 4, 17] (by simp only [go_sem, getD_map, hi', List.length_map]; rfl) (by first | (simp [hi']; done) | (simp [hi']; omega)) ?_
  refine oB (fun h1 => ?_) fun h1 => ?_
  ·
   have hk2 : k < l[i].length := by simp at h1; omega
   refine vwp_skip ?_
   try simp only [thenQ, blockQ, jumpQ, stayQ]
   refine vwp_seq ?_
   refine vwp_block ?_
   refine vwp_reg tabOk [] [0, 3, 4, 26] (by simp only [go_sem, getD_map, hi']; rfl) (by first | (simp [hi']; done) | (simp [hi']; omega)) ?_
   refine oB (fun h2 => ?_) fun h2 => ?_
   ·
    refine oR [2] ?_
    refine vwp_ret ?_
    simp only [thenQ, blockQ, jumpQ, stayQ, RetQ, go_sem]
    refine ⟨by simp, Wk.eq ?_⟩
    rw [linesB, not_all lineB l i hi' (by rw [lineB]; exact not_all _ l[i] k hk2 (by simp [List.getD, hk2, u8_10] at h2 ⊢; exact h2))]
   ·
    refine vwp_skip ?_
    try simp only [thenQ, blockQ, jumpQ, stayQ]
    refine vwp_reg1 tabOk [] [0, 3, 4] (by simp only [go_sem]; rfl) (by simp [in64]; have := facts_cS hk.1.2 hi'; omega) ?_
    try simp only [thenQ, blockQ, jumpQ, stayQ]
    exact ⟨k + 1, ⟨by omega, by rw [take_all _ l[i] k hk2, hok2]; simp [List.getD, hk2, u8_10] at h2 ⊢; exact h2⟩, by omega, (wC (wC (wC (Env.wk_nil _)))), (by first | rfl | trivial)⟩
  ·
   have hln : lineB l[i] = true := by
    have : k = l[i].length := by simp at h1; omega
    subst this; rw [List.take_length] at hok2; exact hok2
   refine vwp_exit ?_
   simp only [thenQ, blockQ, jumpQ, stayQ, if_true, reduceIte, Nat.reduceEqDiff]
   refine vwp_reg1 tabOk [] [0, 3] (by simp only [go_sem]; rfl) (by first | trivial | (simp; done) | (simp [in64]; omega)) ?_
   try simp only [thenQ, blockQ, jumpQ, stayQ]
   exact ⟨i + 1, ⟨by omega, by rw [take_all lineB l i hi', hok, hln]; rfl⟩, by omega, (wC (wC (Env.wk_nil _))), (by first | rfl | trivial)⟩
 ·
  refine vwp_exit ?_
  simp only [thenQ, blockQ, jumpQ, stayQ, if_true, reduceIte, Nat.reduceEqDiff]
  refine oR [2] ?_
  refine vwp_ret ?_
  simp only [thenQ, blockQ, jumpQ, stayQ, RetQ, go_sem]
  refine ⟨by simp, Wk.eq ?_⟩
  have : i = l.length := by simp at h0; omega
  subst this; rw [List.take_length] at hok; rw [linesB, hok]
theorem b_ref05_Same : bodied Go.Proofs.Tryz.prog 40 = true := by rw [bodied, Tryz.func40]; rfl
theorem c_ref05_Same (a b : List (List UInt8)) : VPure Go.Proofs.Tryz.prog G 40 [.list 1 (a.map cS), .list 1 (b.map cS)] (.bool (decide (a = b))) := by
 refine vpure_know fun hk => ?_
 simp only [factsL, facts, maxB, List.length_map] at hk
 refine vpure_of (ts := [4]) Tryz.func40 rfl (by simp [Tryz.ntmps40]) rfl rfl ?_
 rw [Tryz.ntmps40]
 refine oR [0, 1] ?_
 refine vwp_seq ?_
 refine oR [0, 1, 10] ?_
 refine oB (fun h0 => ?_) fun h0 => ?_
 ·
  refine oR [4] ?_
  refine vwp_ret ?_
  simp only [thenQ, blockQ, jumpQ, stayQ, RetQ, go_sem]
  refine ⟨by simp, Wk.eq ?_⟩
  congr 1; symm; simp at h0; simp; intro h; exact h0 (by rw [h])
 ·
  refine vwp_skip ?_
  try simp only [thenQ, blockQ, jumpQ, stayQ]
  refine vwp_seq ?_
  refine oR [0, 1, 5] ?_
  refine vwp_block ?_
  refine vwp_loopW (fun i : Nat => [(0, .list 1 (a.map cS)), (1, .list 1 (b.map cS)), (5, .int .i64 (i : Int))]) (fun i => []) (fun i => i ≤ a.length ∧ a.take i = b.take i) (fun i => a.length - i) 0 ⟨Nat.zero_le _, by simp⟩ (wC (wC (wC (Env.wk_nil _)))) rfl ?_
  rintro i ⟨hi, hok⟩
  refine vwp_seq ?_
  refine oR [0, 1, 5, 14] ?_
  refine oB (fun h1 => ?_) fun h1 => ?_
  ·
   have h1' : i < a.length := by simp at h1; omega
   have h1'' : i < b.length := by simp at h0; omega
   refine vwp_skip ?_
   try simp only [thenQ, blockQ, jumpQ, stayQ]
   refine vwp_seq ?_
   refine vwp_block ?_
   refine vwp_seq (vwp_drawD mixed (by kernel_rfl) (eF := ?_) ?_ [0, 1, 5, 25] rfl ?_)
   rotate_left
   ·
    refine dall_go tabOk (by simp only [go_sem, getD_map, h1', h1'']; rfl) (by first | (simp [h1', h1'']; done) | (simp [h1', h1'']; omega)) ?_
    exact dall_nil
   simp only [go_sem, thenQ, blockQ, jumpQ, stayQ]
   refine oB (fun h2 => ?_) fun h2 => ?_
   ·
    refine oR [4] ?_
    refine vwp_ret ?_
    simp only [thenQ, blockQ, jumpQ, stayQ, RetQ, go_sem]
    refine ⟨by simp, Wk.eq ?_⟩
    congr 1; symm; simp at h2; simp; intro h; subst h; exact h2 rfl
   ·
    refine vwp_skip ?_
    try simp only [thenQ, blockQ, jumpQ, stayQ]
    refine vwp_reg1 tabOk [] [0, 1, 5] (by simp only [go_sem]; rfl) (by first | trivial | (simp; done) | (simp [in64]; omega)) ?_
    try simp only [thenQ, blockQ, jumpQ, stayQ]
    exact ⟨i + 1, ⟨by omega, by rw [List.take_succ_eq_append_getElem h1', List.take_succ_eq_append_getElem h1'', hok]; simp at h2; rw [h2]⟩, by omega, (wC (wC (wC (Env.wk_nil _)))), (by first | rfl | trivial)⟩
  ·
   refine vwp_exit ?_
   simp only [thenQ, blockQ, jumpQ, stayQ, if_true, reduceIte, Nat.reduceEqDiff]
   refine oR [4] ?_
   refine vwp_ret ?_
   simp only [thenQ, blockQ, jumpQ, stayQ, RetQ, go_sem]
   refine ⟨by simp, Wk.eq ?_⟩
   congr 1; symm; have : i = a.length := by simp at h1; omega
   subst this; simp at h0; rw [List.take_length] at hok; rw [decide_eq_true_eq, hok]; have h3 : a.length = b.length := by omega
   rw [h3, List.take_length]
theorem b_ref04_Right : bodied Go.Proofs.Tryz.prog 139 = true := by rw [bodied, Tryz.func139]; rfl
theorem c_ref04_Right (p : List UInt8) : VPure Go.Proofs.Tryz.prog G 139 [.str p] (.bool (pathB p)) := by
 refine vpure_know fun hk => ?_
 simp only [factsL, facts, maxB] at hk
 refine vpure_of (ts := [2]) Tryz.func139 rfl (by simp [Tryz.ntmps139]) rfl rfl ?_
 rw [Tryz.ntmps139]
 refine oR [0] ?_
 refine oR [0, 3] ?_
 refine oR [0, 3, 4] ?_
 refine vwp_seq ?_
 refine oR [0, 3, 4, 5] ?_
 refine vwp_block ?_
 refine vwp_loopW (fun x : Nat × Nat × Nat => [(0, .str p), (3, .int .i64 (x.1 : Int)), (4, .int .i64 (x.2.1 : Int)), (5, .int .i64 (x.2.2 : Int))]) (fun x => []) (fun x => x.2.2 ≤ p.length + 1 ∧ x.2.1 ≤ x.2.2 ∧ (x.2.2 = p.length + 1 → x.2.1 = p.length + 1) ∧ (∀ c ∈ (p.take x.2.2).drop x.2.1, c ≠ 47) ∧ ∃ done : List (List UInt8), pieces p = done ++ piecesAt p x.2.1 ∧ done.all partB = true ∧ x.1 = done.length ∧ x.1 ≤ x.2.1) (fun x => p.length + 1 - x.2.2) (0, 0, 0) ⟨Nat.zero_le _, Nat.le_refl _, by simp, by simp, [], by simp [piecesAt_zero], rfl, rfl, Nat.le_refl _⟩ (wC (wC (wC (wC (Env.wk_nil _))))) rfl ?_
 rintro x ⟨hi1, hi2, hi3, hi4, done, hi5, hi6, hi7, hi8⟩
 refine vwp_seq ?_
 refine oR [0, 3, 4, 5, 9] ?_
 refine oB (fun h0 => ?_) fun h0 => ?_
 ·
  have h0' : x.2.2 ≤ p.length := by simp at h0; omega
  refine vwp_skip ?_
  try simp only [thenQ, blockQ, jumpQ, stayQ]
  refine vwp_seq ?_
  refine vwp_block ?_
  refine vwp_seq ?_
  refine vwp_reg tabOk [] [0, 3, 4, 5, 21] (by simp only [go_sem]; rfl) (by first | (simp; done) | (simp; omega)) ?_
  refine oB (fun h1 => ?_) fun h1 => ?_
  ·
   refine vwp_exit ?_
   simp only [thenQ, blockQ, jumpQ, stayQ, if_true, reduceIte, Nat.reduceEqDiff]
   refine vwp_reg1 tabOk [] [0, 3, 4, 5] (by simp only [go_sem]; rfl) (by first | trivial | (simp; done) | (simp [in64]; omega)) ?_
   try simp only [thenQ, blockQ, jumpQ, stayQ]
   have h1' : ∃ h : x.2.2 < p.length, p[x.2.2] ≠ 47 := by
    simp at h1; refine ⟨by omega, ?_⟩; have h3 : x.2.2 < p.length := by omega
    simp [List.getD, h3, u8_47] at h1; exact h1
   obtain ⟨h1a, h1b⟩ := h1'
   have h1' := And.intro h1a h1b
   exact ⟨(x.1, x.2.1, x.2.2 + 1), ⟨by simp; omega, by simp; omega, by simp; omega, by rw [drop_take_succ p _ _ hi2 h1'.1]; intro c hc; rcases List.mem_append.1 hc with hc | hc; exact hi4 c hc; rw [List.mem_singleton.1 hc]; exact h1'.2, done, hi5, hi6, hi7, hi8⟩, by simp; omega, (wC (wC (wC (wC (Env.wk_nil _))))), (by first | rfl | trivial)⟩
  ·
   have hat : ∀ h : x.2.2 < p.length, p[x.2.2] = 47 := by
    intro h; simp [List.getD, h, u8_47] at h1; first | exact h1 | (rcases h1 with h1 | h1; omega; exact h1)
   refine vwp_skip ?_
   try simp only [thenQ, blockQ, jumpQ, stayQ]
   refine vwp_seq ?_
   refine vwp_seq (vwp_region ?_)
   refine vops_go tabOk [] (by simp only [go_sem]; rfl) (by first | (simp; done) | (simp; omega)) ?_
   refine oC (fun _ => c_ref04_part ((p.take x.2.2).drop x.2.1)) b_ref04_part ?_
   simp only [go_sem]
   refine vops_go tabOk [] (by simp only [go_sem]; rfl) (by first | (simp; done) | (simp; omega)) ?_
   refine vops_done [0, 3, 5, 27] ?_
   simp only [go_sem, thenQ, blockQ, jumpQ, stayQ]
   refine oB (fun h2 => ?_) fun h2 => ?_
   ·
    refine oR [2] ?_
    refine vwp_ret ?_
    simp only [thenQ, blockQ, jumpQ, stayQ, RetQ, go_sem]
    refine ⟨by simp, Wk.eq ?_⟩
    rw [pathB, hi5, piecesAt_step p _ _ hi2 h0' hi4 hat]; simp at h2; simp [h2]
   ·
    refine vwp_skip ?_
    try simp only [thenQ, blockQ, jumpQ, stayQ]
    refine vwp_reg tabOk [] [0, 3, 5] (by simp only [go_sem]; rfl) (by simp [in64]; omega) ?_
    refine vwp_reg1 tabOk [] [0, 3, 4, 5] (by simp only [go_sem]; rfl) (by simp [in64]; omega) ?_
    try simp only [thenQ, blockQ, jumpQ, stayQ]
    refine vwp_reg1 tabOk [] [0, 3, 4, 5] (by simp only [go_sem]; rfl) (by first | trivial | (simp; done) | (simp [in64]; omega)) ?_
    try simp only [thenQ, blockQ, jumpQ, stayQ]
    exact ⟨(x.1 + 1, x.2.2 + 1, x.2.2 + 1), ⟨by simp; omega, Nat.le_refl _, by simp, by simp, done ++ [(p.take x.2.2).drop x.2.1], by rw [hi5, piecesAt_step p _ _ hi2 h0' hi4 hat]; simp, by simp at h2; simp [hi6, h2], by simp [hi7], by simp; omega⟩, by simp; omega, (wC (wC (wC (wC (Env.wk_nil _))))), (by first | rfl | trivial)⟩
 ·
  refine vwp_exit ?_
  simp only [thenQ, blockQ, jumpQ, stayQ, if_true, reduceIte, Nat.reduceEqDiff]
  refine oR [2] ?_
  refine vwp_ret ?_
  simp only [thenQ, blockQ, jumpQ, stayQ, RetQ, go_sem]
  refine ⟨by simp, Wk.eq ?_⟩
  have h3 : x.2.2 = p.length + 1 := by simp at h0; omega
  have h4 := hi3 h3
  have h5 : piecesAt p (p.length + 1) = [] := by rw [piecesAt, if_neg (by omega)]
  rw [pathB, hi5, h4, h5, List.append_nil, hi6, hi7]; congr 1; rw [Bool.true_and]; exact decide_eq_decide.2 (by omega)
end Go.Proofs.YtnobnefabagbhaaGreatDoor.Q
end

section
/- Walks of the document's answers on primitive and named patches, in the logic 'Q'. -/
namespace Go.Proofs.YtnobnefabagbhaaGreatDoor.Q
open Go Go.Q
theorem b_ref08_Right : bodied Go.Proofs.Tryz.prog 100 = true := by rw [bodied, Tryz.func100]; rfl
theorem c_ref08_Right (x : Prim) : VPure Go.Proofs.Tryz.prog G 100 [.agg (cPrim x)] (.bool (primB x)) := by
 refine vpure_know fun hk => ?_
 simp only [factsL, facts, cPrim, maxB, List.length_map] at hk
 refine vpure_of (ts := [2]) Tryz.func100 rfl (by simp [Tryz.ntmps100]) rfl rfl ?_
 rw [Tryz.ntmps100]
 refine oR [1] ?_
 refine vwp_seq ?_
 refine vwp_seq (vwp_region ?_)
 refine oG [] ?_
 refine oC (fun _ => c_ref04_Right x.path) b_ref04_Right ?_
 simp only [go_sem]
 refine oG [] ?_
 refine vops_done [1, 7] ?_
 simp only [go_sem, thenQ, blockQ, jumpQ, stayQ]
 refine oB (fun h0 => ?_) fun h0 => ?_
 ·
  refine oR [2] ?_
  refine vwp_ret ?_
  simp only [thenQ, blockQ, jumpQ, stayQ, RetQ, go_sem]
  refine ⟨by simp, Wk.eq ?_⟩
  simp at h0; simp [primB, h0]
 ·
  refine vwp_skip ?_
  try simp only [thenQ, blockQ, jumpQ, stayQ]
  refine oR [1, 3] ?_
  refine vwp_seq ?_
  refine oR [1, 3, 24] ?_
  refine vwp_block ?_
  refine vwp_joinE (fun b : Bool => [(1, .ptr 0 0), (3, .bool (bare x)), (24, .int .i64 x.kind), (25, .bool b)]) (fun b => [.box (cPrim x)]) (fun b => b = decide (x.kind = 1 ∨ x.kind = 2 ∨ x.kind = 3 ∨ x.kind = 4 ∨ x.kind = 5 ∨ x.kind = 6)) ?_ ?_
  ·
   refine oR [1, 3, 24, 25] ?_
   refine oB (fun h1 => ?_) fun h1 => ?_
   ·
    refine vwp_skip ?_
    try simp only [thenQ, blockQ, jumpQ, stayQ]
    exact ⟨decide (x.kind = 1), by rw [h1]; symm; simp at h1; simp [h1], (Env.wk_cons (by first | exact Wk.refl _ | exact Wk.nils _ | (refine Wk.eq ?_; simp; done) | (refine Wk.eq ?_; simp [bare]; done) | (refine Wk.eq ?_; congr 1 <;> omega)) (Env.wk_cons (by first | exact Wk.refl _ | exact Wk.nils _ | (refine Wk.eq ?_; simp; done) | (refine Wk.eq ?_; simp [bare]; done) | (refine Wk.eq ?_; congr 1 <;> omega)) (Env.wk_cons (by first | exact Wk.refl _ | exact Wk.nils _ | (refine Wk.eq ?_; simp; done) | (refine Wk.eq ?_; simp [bare]; done) | (refine Wk.eq ?_; congr 1 <;> omega)) (Env.wk_cons (by first | exact Wk.refl _ | exact Wk.nils _ | (refine Wk.eq ?_; simp; done) | (refine Wk.eq ?_; simp [bare]; done) | (refine Wk.eq ?_; congr 1 <;> omega)) (Env.wk_nil _))))), (by first | rfl | trivial)⟩
   ·
    refine oR [1, 3, 24, 25] ?_
    refine oB (fun h2 => ?_) fun h2 => ?_
    ·
     refine vwp_skip ?_
     try simp only [thenQ, blockQ, jumpQ, stayQ]
     exact ⟨decide (x.kind = 2), by rw [h2]; symm; simp at h2; simp [h2], (Env.wk_cons (by first | exact Wk.refl _ | exact Wk.nils _ | (refine Wk.eq ?_; simp; done) | (refine Wk.eq ?_; simp [bare]; done) | (refine Wk.eq ?_; congr 1 <;> omega)) (Env.wk_cons (by first | exact Wk.refl _ | exact Wk.nils _ | (refine Wk.eq ?_; simp; done) | (refine Wk.eq ?_; simp [bare]; done) | (refine Wk.eq ?_; congr 1 <;> omega)) (Env.wk_cons (by first | exact Wk.refl _ | exact Wk.nils _ | (refine Wk.eq ?_; simp; done) | (refine Wk.eq ?_; simp [bare]; done) | (refine Wk.eq ?_; congr 1 <;> omega)) (Env.wk_cons (by first | exact Wk.refl _ | exact Wk.nils _ | (refine Wk.eq ?_; simp; done) | (refine Wk.eq ?_; simp [bare]; done) | (refine Wk.eq ?_; congr 1 <;> omega)) (Env.wk_nil _))))), (by first | rfl | trivial)⟩
    ·
     refine oR [1, 3, 24, 25] ?_
     refine oB (fun h3 => ?_) fun h3 => ?_
     ·
      refine vwp_skip ?_
      try simp only [thenQ, blockQ, jumpQ, stayQ]
      exact ⟨decide (x.kind = 3), by rw [h3]; symm; simp at h3; simp [h3], (Env.wk_cons (by first | exact Wk.refl _ | exact Wk.nils _ | (refine Wk.eq ?_; simp; done) | (refine Wk.eq ?_; simp [bare]; done) | (refine Wk.eq ?_; congr 1 <;> omega)) (Env.wk_cons (by first | exact Wk.refl _ | exact Wk.nils _ | (refine Wk.eq ?_; simp; done) | (refine Wk.eq ?_; simp [bare]; done) | (refine Wk.eq ?_; congr 1 <;> omega)) (Env.wk_cons (by first | exact Wk.refl _ | exact Wk.nils _ | (refine Wk.eq ?_; simp; done) | (refine Wk.eq ?_; simp [bare]; done) | (refine Wk.eq ?_; congr 1 <;> omega)) (Env.wk_cons (by first | exact Wk.refl _ | exact Wk.nils _ | (refine Wk.eq ?_; simp; done) | (refine Wk.eq ?_; simp [bare]; done) | (refine Wk.eq ?_; congr 1 <;> omega)) (Env.wk_nil _))))), (by first | rfl | trivial)⟩
     ·
      refine oR [1, 3, 24, 25] ?_
      refine oB (fun h4 => ?_) fun h4 => ?_
      ·
       refine vwp_skip ?_
       try simp only [thenQ, blockQ, jumpQ, stayQ]
       exact ⟨decide (x.kind = 4), by rw [h4]; symm; simp at h4; simp [h4], (Env.wk_cons (by first | exact Wk.refl _ | exact Wk.nils _ | (refine Wk.eq ?_; simp; done) | (refine Wk.eq ?_; simp [bare]; done) | (refine Wk.eq ?_; congr 1 <;> omega)) (Env.wk_cons (by first | exact Wk.refl _ | exact Wk.nils _ | (refine Wk.eq ?_; simp; done) | (refine Wk.eq ?_; simp [bare]; done) | (refine Wk.eq ?_; congr 1 <;> omega)) (Env.wk_cons (by first | exact Wk.refl _ | exact Wk.nils _ | (refine Wk.eq ?_; simp; done) | (refine Wk.eq ?_; simp [bare]; done) | (refine Wk.eq ?_; congr 1 <;> omega)) (Env.wk_cons (by first | exact Wk.refl _ | exact Wk.nils _ | (refine Wk.eq ?_; simp; done) | (refine Wk.eq ?_; simp [bare]; done) | (refine Wk.eq ?_; congr 1 <;> omega)) (Env.wk_nil _))))), (by first | rfl | trivial)⟩
      ·
       refine oR [1, 3, 24, 25] ?_
       refine oB (fun h5 => ?_) fun h5 => ?_
       ·
        refine vwp_skip ?_
        try simp only [thenQ, blockQ, jumpQ, stayQ]
        exact ⟨decide (x.kind = 5), by rw [h5]; symm; simp at h5; simp [h5], (Env.wk_cons (by first | exact Wk.refl _ | exact Wk.nils _ | (refine Wk.eq ?_; simp; done) | (refine Wk.eq ?_; simp [bare]; done) | (refine Wk.eq ?_; congr 1 <;> omega)) (Env.wk_cons (by first | exact Wk.refl _ | exact Wk.nils _ | (refine Wk.eq ?_; simp; done) | (refine Wk.eq ?_; simp [bare]; done) | (refine Wk.eq ?_; congr 1 <;> omega)) (Env.wk_cons (by first | exact Wk.refl _ | exact Wk.nils _ | (refine Wk.eq ?_; simp; done) | (refine Wk.eq ?_; simp [bare]; done) | (refine Wk.eq ?_; congr 1 <;> omega)) (Env.wk_cons (by first | exact Wk.refl _ | exact Wk.nils _ | (refine Wk.eq ?_; simp; done) | (refine Wk.eq ?_; simp [bare]; done) | (refine Wk.eq ?_; congr 1 <;> omega)) (Env.wk_nil _))))), (by first | rfl | trivial)⟩
       ·
        refine vwp_reg1 tabOk [] [1, 3, 24, 25] (by simp only [go_sem]; rfl) (by first | trivial | (simp; done) | (simp [in64]; omega)) ?_
        try simp only [thenQ, blockQ, jumpQ, stayQ]
        exact ⟨decide (x.kind = 6), by simp at h1 h2 h3 h4 h5; simp [h1, h2, h3, h4, h5], (Env.wk_cons (by first | exact Wk.refl _ | exact Wk.nils _ | (refine Wk.eq ?_; simp; done) | (refine Wk.eq ?_; simp [bare]; done) | (refine Wk.eq ?_; congr 1 <;> omega)) (Env.wk_cons (by first | exact Wk.refl _ | exact Wk.nils _ | (refine Wk.eq ?_; simp; done) | (refine Wk.eq ?_; simp [bare]; done) | (refine Wk.eq ?_; congr 1 <;> omega)) (Env.wk_cons (by first | exact Wk.refl _ | exact Wk.nils _ | (refine Wk.eq ?_; simp; done) | (refine Wk.eq ?_; simp [bare]; done) | (refine Wk.eq ?_; congr 1 <;> omega)) (Env.wk_cons (by first | exact Wk.refl _ | exact Wk.nils _ | (refine Wk.eq ?_; simp; done) | (refine Wk.eq ?_; simp [bare]; done) | (refine Wk.eq ?_; congr 1 <;> omega)) (Env.wk_nil _))))), (by first | rfl | trivial)⟩
  ·
   rintro b hj
   refine vwp_cond (b := b) (by simp only [go_sem]) (fun h6 => ?_) (fun h6 => ?_)
   ·
    refine oR [2] ?_
    refine vwp_ret ?_
    simp only [thenQ, blockQ, jumpQ, stayQ, RetQ, go_sem]
    refine ⟨by simp, Wk.eq ?_⟩
    simp at h0; rw [h6] at hj; have hj := of_decide_eq_true hj.symm; rw [primB, if_pos hj, h0, Bool.true_and]; simp only [Bool.cond_false_right]
   ·
    refine oR [1, 3, 24, 43] ?_
    refine oB (fun h7 => ?_) fun h7 => ?_
    ·
     refine vwp_seq (vwp_region ?_)
     refine oG [] ?_
     refine oC (fun _ => c_ref05_Right x.old) b_ref05_Right ?_
     simp only [go_sem]
     refine oG [] ?_
     refine oC (fun _ => c_ref05_Right x.new) b_ref05_Right ?_
     simp only [go_sem]
     refine oG [] ?_
     refine vops_done [2] ?_
     simp only [go_sem, thenQ, blockQ, jumpQ, stayQ]
     refine vwp_ret ?_
     simp only [thenQ, blockQ, jumpQ, stayQ, RetQ, go_sem]
     refine ⟨by simp, Wk.eq ?_⟩
     simp at h0; rw [h6] at hj; have hj := of_decide_eq_false hj.symm; rw [primB, if_neg hj, h0, Bool.true_and, if_pos (of_decide_eq_true h7)]; simp only [Bool.cond_false_right, List.length_map]; congr 2; exact decide_eq_decide.2 (by omega)
    ·
     refine oR [1, 3, 24, 83] ?_
     refine oB (fun h8 => ?_) fun h8 => ?_
     ·
      refine vwp_seq (vwp_region ?_)
      refine oG [] ?_
      refine oC (fun _ => c_ref05_Token x.frm) b_ref05_Token ?_
      simp only [go_sem]
      refine oG [] ?_
      refine oC (fun _ => c_ref05_Token x.to) b_ref05_Token ?_
      simp only [go_sem]
      refine oG [] ?_
      refine vops_done [2] ?_
      simp only [go_sem, thenQ, blockQ, jumpQ, stayQ]
      refine vwp_ret ?_
      simp only [thenQ, blockQ, jumpQ, stayQ, RetQ, go_sem]
      refine ⟨by simp, Wk.eq ?_⟩
      simp at h0; rw [h6] at hj; have hj := of_decide_eq_false hj.symm; rw [primB, if_neg hj, h0, Bool.true_and, if_neg (of_decide_eq_false h7), if_pos (of_decide_eq_true h8)]; simp only [Bool.cond_false_right]
     ·
      refine oR [1, 3, 24, 103] ?_
      refine oB (fun h9 => ?_) fun h9 => ?_
      ·
       refine oR [2] ?_
       refine vwp_ret ?_
       simp only [thenQ, blockQ, jumpQ, stayQ, RetQ, go_sem]
       refine ⟨by simp, Wk.eq ?_⟩
       simp at h0; rw [h6] at hj; have hj := of_decide_eq_false hj.symm; rw [primB, if_neg hj, h0, Bool.true_and, if_neg (of_decide_eq_false h7), if_neg (of_decide_eq_false h8), if_pos (of_decide_eq_true h9)]; simp only [Bool.cond_false_right]
      ·
       refine oR [1, 3, 113] ?_
       refine oB (fun h10 => ?_) fun h10 => ?_
       ·
        refine vwp_seq (vwp_region ?_)
        refine oG [] ?_
        refine oC (fun _ => c_ref04_Right x.to) b_ref04_Right ?_
        simp only [go_sem]
        refine oG [] ?_
        refine oC (fun _ => c_ref04_Apart x.path x.to) b_ref04_Apart ?_
        simp only [go_sem]
        refine oG [] ?_
        refine vops_done [2] ?_
        simp only [go_sem, thenQ, blockQ, jumpQ, stayQ]
        refine vwp_ret ?_
        simp only [thenQ, blockQ, jumpQ, stayQ, RetQ, go_sem]
        refine ⟨by simp, Wk.eq ?_⟩
        simp at h0; rw [h6] at hj; have hj := of_decide_eq_false hj.symm; rw [primB, if_neg hj, h0, Bool.true_and, if_neg (of_decide_eq_false h7), if_neg (of_decide_eq_false h8), if_neg (of_decide_eq_false h9), if_pos (of_decide_eq_true h10)]; simp only [Bool.cond_false_right]
       ·
        refine vwp_skip ?_
        try simp only [thenQ, blockQ, jumpQ, stayQ]
        refine oR [2] ?_
        refine vwp_ret ?_
        simp only [thenQ, blockQ, jumpQ, stayQ, RetQ, go_sem]
        refine ⟨by simp, Wk.eq ?_⟩
        simp at h0; rw [h6] at hj; have hj := of_decide_eq_false hj.symm; rw [primB, if_neg hj, h0, Bool.true_and, if_neg (of_decide_eq_false h7), if_neg (of_decide_eq_false h8), if_neg (of_decide_eq_false h9), if_neg (of_decide_eq_false h10)]
theorem b_ref08_Same : bodied Go.Proofs.Tryz.prog 89 = true := by rw [bodied, Tryz.func89]; rfl
theorem c_ref08_Same (x y : Prim) : VPure Go.Proofs.Tryz.prog G 89 [.agg (cPrim x), .agg (cPrim y)] (.bool (decide (x = y))) := by
 refine vpure_of (ts := [4]) Tryz.func89 rfl (by simp [Tryz.ntmps89]) rfl rfl ?_
 rw [Tryz.ntmps89]
 refine oR [2, 3] ?_
 refine vwp_seq (vwp_region ?_)
 refine oG [] ?_
 refine oC (fun _ => c_ref05_Same x.old y.old) b_ref05_Same ?_
 simp only [go_sem]
 refine oG [] ?_
 refine oC (fun _ => c_ref05_Same x.new y.new) b_ref05_Same ?_
 simp only [go_sem]
 refine oG [] ?_
 refine vops_done [4] ?_
 simp only [go_sem, thenQ, blockQ, jumpQ, stayQ]
 refine vwp_ret ?_
 simp only [thenQ, blockQ, jumpQ, stayQ, RetQ, go_sem]
 refine ⟨by simp, Wk.eq ?_⟩
 rw [prim_eq]; simp only [Bool.cond_false_right]
theorem b_ref08_SameList : bodied Go.Proofs.Tryz.prog 55 = true := by rw [bodied, Tryz.func55]; rfl
theorem c_ref08_SameList (a b : List Prim) : VPure Go.Proofs.Tryz.prog G 55 [.list 7 (a.map cPrim), .list 7 (b.map cPrim)] (.bool (decide (a = b))) := by
 refine vpure_know fun hk => ?_
 simp only [factsL, facts, maxB, List.length_map] at hk
 refine vpure_of (ts := [4]) Tryz.func55 rfl (by simp [Tryz.ntmps55]) rfl rfl ?_
 rw [Tryz.ntmps55]
 refine oR [0, 1] ?_
 refine vwp_seq ?_
 refine oR [0, 1, 10] ?_
 refine oB (fun h0 => ?_) fun h0 => ?_
 ·
  refine oR [4] ?_
  refine vwp_ret ?_
  simp only [thenQ, blockQ, jumpQ, stayQ, RetQ, go_sem]
  refine ⟨by simp, Wk.eq ?_⟩
  congr 1; symm; simp at h0; simp; intro h; exact h0 (by rw [h])
 ·
  refine vwp_skip ?_
  try simp only [thenQ, blockQ, jumpQ, stayQ]
  refine vwp_seq ?_
  refine oR [0, 1, 5] ?_
  refine vwp_block ?_
  refine vwp_loopW (fun i : Nat => [(0, .list 7 (a.map cPrim)), (1, .list 7 (b.map cPrim)), (5, .int .i64 (i : Int))]) (fun i => []) (fun i => i ≤ a.length ∧ a.take i = b.take i) (fun i => a.length - i) 0 ⟨Nat.zero_le _, by simp⟩ (wC (wC (wC (Env.wk_nil _)))) rfl ?_
  rintro i ⟨hi, hok⟩
  refine vwp_seq ?_
  refine oR [0, 1, 5, 14] ?_
  refine oB (fun h1 => ?_) fun h1 => ?_
  ·
   have h1' : i < a.length := by simp at h1; omega
   have h1'' : i < b.length := by simp at h0; omega
   refine vwp_skip ?_
   try simp only [thenQ, blockQ, jumpQ, stayQ]
   refine vwp_seq ?_
   refine vwp_block ?_
   refine vwp_seq (vwp_drawD mixed (by kernel_rfl) (eF := ?_) ?_ [0, 1, 5, 26] rfl ?_)
   rotate_left
   ·
    refine dall_go tabOk (by simp only [go_sem, getD_map, h1', h1'']; rfl) (by first | (simp [h1', h1'']; done) | (simp [h1', h1'']; omega)) ?_
    refine dall_call (hc := fun _ => c_ref08_Same a[i] b[i]) rfl (by simp only [go_sem, getD_map, h1', h1'']; rfl) b_ref08_Same (by simp only [go_sem]; exact WkL.refl _) rfl (fun hg => by simp only [go_sem]; try (intros; first | assumption | trivial | simp_all)) ?_
    simp only [go_sem]
    refine dall_go tabOk (by simp only [go_sem, getD_map, h1', h1'']; rfl) (by first | (simp [h1', h1'']; done) | (simp [h1', h1'']; omega)) ?_
    exact dall_nil
   simp only [go_sem, thenQ, blockQ, jumpQ, stayQ]
   refine oB (fun h2 => ?_) fun h2 => ?_
   ·
    refine oR [4] ?_
    refine vwp_ret ?_
    simp only [thenQ, blockQ, jumpQ, stayQ, RetQ, go_sem]
    refine ⟨by simp, Wk.eq ?_⟩
    congr 1; symm; simp at h2; simp; intro h; subst h; exact h2 rfl
   ·
    refine vwp_skip ?_
    try simp only [thenQ, blockQ, jumpQ, stayQ]
    refine vwp_reg1 tabOk [] [0, 1, 5] (by simp only [go_sem]; rfl) (by first | trivial | (simp; done) | (simp [in64]; omega)) ?_
    try simp only [thenQ, blockQ, jumpQ, stayQ]
    exact ⟨i + 1, ⟨by omega, by rw [List.take_succ_eq_append_getElem h1', List.take_succ_eq_append_getElem h1'', hok]; simp at h2; rw [h2]⟩, by omega, (wC (wC (wC (Env.wk_nil _)))), (by first | rfl | trivial)⟩
  ·
   refine vwp_exit ?_
   simp only [thenQ, blockQ, jumpQ, stayQ, if_true, reduceIte, Nat.reduceEqDiff]
   refine oR [4] ?_
   refine vwp_ret ?_
   simp only [thenQ, blockQ, jumpQ, stayQ, RetQ, go_sem]
   refine ⟨by simp, Wk.eq ?_⟩
   congr 1; symm; have : i = a.length := by simp at h1; omega
   subst this; simp at h0; rw [List.take_length] at hok; rw [decide_eq_true_eq, hok]; have h3 : a.length = b.length := by omega
   rw [h3, List.take_length]
theorem b_ref13_Same : bodied Go.Proofs.Tryz.prog 24 = true := by rw [bodied, Tryz.func24]; rfl
theorem c_ref13_Same (x y : Patch) : VPure Go.Proofs.Tryz.prog G 24 [.agg (cPatch x), .agg (cPatch y)] (.bool (decide (x = y))) := by
 refine vpure_of (ts := [4]) Tryz.func24 rfl (by simp [Tryz.ntmps24]) rfl rfl ?_
 rw [Tryz.ntmps24]
 refine oR [2, 3] ?_
 refine vwp_seq (vwp_region ?_)
 refine oG [] ?_
 refine oC (fun _ => c_ref05_Same x.deps y.deps) b_ref05_Same ?_
 simp only [go_sem]
 refine oG [] ?_
 refine oC (fun _ => c_ref08_SameList x.body y.body) b_ref08_SameList ?_
 simp only [go_sem]
 refine oG [] ?_
 refine vops_done [4] ?_
 simp only [go_sem, thenQ, blockQ, jumpQ, stayQ]
 refine vwp_ret ?_
 simp only [thenQ, blockQ, jumpQ, stayQ, RetQ, go_sem]
 refine ⟨by simp, Wk.eq ?_⟩
 rw [patch_eq]; simp only [Bool.cond_false_right]
theorem b_ref13_SameList : bodied Go.Proofs.Tryz.prog 19 = true := by rw [bodied, Tryz.func19]; rfl
theorem c_ref13_SameList (a b : List Patch) : VPure Go.Proofs.Tryz.prog G 19 [.list 3 (a.map cPatch), .list 3 (b.map cPatch)] (.bool (decide (a = b))) := by
 refine vpure_know fun hk => ?_
 simp only [factsL, facts, maxB, List.length_map] at hk
 refine vpure_of (ts := [4]) Tryz.func19 rfl (by simp [Tryz.ntmps19]) rfl rfl ?_
 rw [Tryz.ntmps19]
 refine oR [0, 1] ?_
 refine vwp_seq ?_
 refine oR [0, 1, 10] ?_
 refine oB (fun h0 => ?_) fun h0 => ?_
 ·
  refine oR [4] ?_
  refine vwp_ret ?_
  simp only [thenQ, blockQ, jumpQ, stayQ, RetQ, go_sem]
  refine ⟨by simp, Wk.eq ?_⟩
  congr 1; symm; simp at h0; simp; intro h; exact h0 (by rw [h])
 ·
  refine vwp_skip ?_
  try simp only [thenQ, blockQ, jumpQ, stayQ]
  refine vwp_seq ?_
  refine oR [0, 1, 5] ?_
  refine vwp_block ?_
  refine vwp_loopW (fun i : Nat => [(0, .list 3 (a.map cPatch)), (1, .list 3 (b.map cPatch)), (5, .int .i64 (i : Int))]) (fun i => []) (fun i => i ≤ a.length ∧ a.take i = b.take i) (fun i => a.length - i) 0 ⟨Nat.zero_le _, by simp⟩ (wC (wC (wC (Env.wk_nil _)))) rfl ?_
  rintro i ⟨hi, hok⟩
  refine vwp_seq ?_
  refine oR [0, 1, 5, 14] ?_
  refine oB (fun h1 => ?_) fun h1 => ?_
  ·
   have h1' : i < a.length := by simp at h1; omega
   have h1'' : i < b.length := by simp at h0; omega
   refine vwp_skip ?_
   try simp only [thenQ, blockQ, jumpQ, stayQ]
   refine vwp_seq ?_
   refine vwp_block ?_
   refine vwp_seq (vwp_drawD mixed (by kernel_rfl) (eF := ?_) ?_ [0, 1, 5, 26] rfl ?_)
   rotate_left
   ·
    refine dall_go tabOk (by simp only [go_sem, getD_map, h1', h1'']; rfl) (by first | (simp [h1', h1'']; done) | (simp [h1', h1'']; omega)) ?_
    refine dall_call (hc := fun _ => c_ref13_Same a[i] b[i]) rfl (by simp only [go_sem, getD_map, h1', h1'']; rfl) b_ref13_Same (by simp only [go_sem]; exact WkL.refl _) rfl (fun hg => by simp only [go_sem]; try (intros; first | assumption | trivial | simp_all)) ?_
    simp only [go_sem]
    refine dall_go tabOk (by simp only [go_sem, getD_map, h1', h1'']; rfl) (by first | (simp [h1', h1'']; done) | (simp [h1', h1'']; omega)) ?_
    exact dall_nil
   simp only [go_sem, thenQ, blockQ, jumpQ, stayQ]
   refine oB (fun h2 => ?_) fun h2 => ?_
   ·
    refine oR [4] ?_
    refine vwp_ret ?_
    simp only [thenQ, blockQ, jumpQ, stayQ, RetQ, go_sem]
    refine ⟨by simp, Wk.eq ?_⟩
    congr 1; symm; simp at h2; simp; intro h; subst h; exact h2 rfl
   ·
    refine vwp_skip ?_
    try simp only [thenQ, blockQ, jumpQ, stayQ]
    refine vwp_reg1 tabOk [] [0, 1, 5] (by simp only [go_sem]; rfl) (by first | trivial | (simp; done) | (simp [in64]; omega)) ?_
    try simp only [thenQ, blockQ, jumpQ, stayQ]
    exact ⟨i + 1, ⟨by omega, by rw [List.take_succ_eq_append_getElem h1', List.take_succ_eq_append_getElem h1'', hok]; simp at h2; rw [h2]⟩, by omega, (wC (wC (wC (Env.wk_nil _)))), (by first | rfl | trivial)⟩
  ·
   refine vwp_exit ?_
   simp only [thenQ, blockQ, jumpQ, stayQ, if_true, reduceIte, Nat.reduceEqDiff]
   refine oR [4] ?_
   refine vwp_ret ?_
   simp only [thenQ, blockQ, jumpQ, stayQ, RetQ, go_sem]
   refine ⟨by simp, Wk.eq ?_⟩
   congr 1; symm; have : i = a.length := by simp at h1; omega
   subst this; simp at h0; rw [List.take_length] at hok; rw [decide_eq_true_eq, hok]; have h3 : a.length = b.length := by omega
   rw [h3, List.take_length]
theorem b_ref13_Right : bodied Go.Proofs.Tryz.prog 67 = true := by rw [bodied, Tryz.func67]; rfl
theorem c_ref13_Right (x : Patch) : VPure Go.Proofs.Tryz.prog G 67 [.agg (cPatch x)] (.bool (patchB x)) := by
 refine vpure_know fun hk => ?_
 simp only [factsL, facts, cPatch, maxB, List.length_map] at hk
 refine vpure_of (ts := [2]) Tryz.func67 rfl (by simp [Tryz.ntmps67]) rfl rfl ?_
 rw [Tryz.ntmps67]
 refine oR [1] ?_
 refine vwp_seq ?_
 refine vwp_seq (vwp_region ?_)
 refine oG [] ?_
 refine oC (fun _ => c_ref13_Label x.name) b_ref13_Label ?_
 simp only [go_sem]
 refine oG [] ?_
 refine vops_done [1, 20] ?_
 simp only [go_sem, thenQ, blockQ, jumpQ, stayQ]
 refine oB (fun h0 => ?_) fun h0 => ?_
 ·
  refine oR [2] ?_
  refine vwp_ret ?_
  simp only [thenQ, blockQ, jumpQ, stayQ, RetQ, go_sem]
  refine ⟨by simp, Wk.eq ?_⟩
  rw [patchB]; congr 1; symm; rw [Bool.and_eq_false_iff]; left; simp at h0 ⊢; intro h5 h6; rcases h0 with (h0 | h0) | h0 <;> first | omega | (rw [h5] at h0; cases h0)
 ·
  refine vwp_skip ?_
  try simp only [thenQ, blockQ, jumpQ, stayQ]
  refine vwp_seq ?_
  refine oR [1, 3] ?_
  refine vwp_block ?_
  refine vwp_loopW (fun i : Nat => [(1, .ptr 0 0), (3, .int .i64 (i : Int))]) (fun i => [.box (cPatch x)]) (fun i => i ≤ x.deps.length ∧ depsB (x.deps.take i) x.name = true) (fun i => x.deps.length - i) 0 ⟨Nat.zero_le _, by rfl⟩ (wC (wC (Env.wk_nil _))) rfl ?_
  rintro i ⟨hi, hok⟩
  refine vwp_seq ?_
  refine oR [1, 3, 25] ?_
  refine oB (fun h1 => ?_) fun h1 => ?_
  ·
   have h1' : i < x.deps.length := by simp at h1; omega
   refine vwp_skip ?_
   try simp only [thenQ, blockQ, jumpQ, stayQ]
   refine vwp_seq ?_
   refine vwp_block ?_
   refine vwp_seq (vwp_drawD mixed (by kernel_rfl) (eF := ?_) ?_ [1, 3, 62] rfl ?_)
   rotate_left
   ·
    refine dall_go tabOk (by simp only [go_sem]; rfl) (by first | (simp [h1']; done) | (simp [h1', in64]; omega) | (simp [h1', in64]; repeat' (first | omega | intro _ | constructor))) ?_
    refine dall_call (hc := fun _ => c_ref13_Label (x.deps.getD i [])) rfl (by simp only [go_sem]; rfl) b_ref13_Label (by simp only [go_sem]; exact WkL.refl _) rfl (fun hg => by simp only [go_sem]; try (intros; first | assumption | trivial | simp_all)) ?_
    simp only [go_sem]
    refine dall_go tabOk (by simp only [go_sem]; rfl) (by first | (simp [h1']; done) | (simp [h1', in64]; omega) | (simp [h1', in64]; repeat' (first | omega | intro _ | constructor))) ?_
    exact dall_nil
   simp only [go_sem, thenQ, blockQ, jumpQ, stayQ]
   refine oB (fun h2 => ?_) fun h2 => ?_
   ·
    refine oR [2] ?_
    refine vwp_ret ?_
    simp only [thenQ, blockQ, jumpQ, stayQ, RetQ, go_sem]
    refine ⟨by simp, Wk.eq ?_⟩
    rw [step_go] at h2; rw [patchB, depsB_false _ _ i h1' (by simpa using h2)]; simp
   ·
    refine vwp_skip ?_
    try simp only [thenQ, blockQ, jumpQ, stayQ]
    refine vwp_reg1 tabOk [] [1, 3] (by simp only [go_sem]; rfl) (by first | trivial | (simp; done) | (simp [in64]; omega)) ?_
    try simp only [thenQ, blockQ, jumpQ, stayQ]
    exact ⟨i + 1, ⟨by omega, by rw [depsB_take _ _ _ h1', hok]; rw [step_go] at h2; simpa using h2⟩, by omega, (wC (wC (Env.wk_nil _))), (by first | rfl | trivial)⟩
  ·
   refine vwp_exit ?_
   simp only [thenQ, blockQ, jumpQ, stayQ, if_true, reduceIte, Nat.reduceEqDiff]
   refine vwp_seq ?_
   refine oR [1, 4] ?_
   refine vwp_block ?_
   refine vwp_loopW (fun k : Nat => [(1, .ptr 0 0), (4, .int .i64 (k : Int))]) (fun k => [.box (cPatch x)]) (fun k => k ≤ x.body.length ∧ (x.body.take k).all primB = true) (fun k => x.body.length - k) 0 ⟨Nat.zero_le _, by rfl⟩ (wC (wC (Env.wk_nil _))) rfl ?_
   rintro k ⟨hk1, hok3⟩
   refine vwp_seq ?_
   refine oR [1, 4, 67] ?_
   refine oB (fun h3 => ?_) fun h3 => ?_
   ·
    have h3' : k < x.body.length := by simp at h3; omega
    refine vwp_skip ?_
    try simp only [thenQ, blockQ, jumpQ, stayQ]
    refine vwp_seq ?_
    refine vwp_block ?_
    refine vwp_seq (vwp_region ?_)
    refine vops_go tabOk [] (by simp only [go_sem, getD_map, h3']; rfl) (by first | (simp [h3']; done) | (simp [h3']; omega)) ?_
    refine vops_call (hc := fun _ => c_ref08_Right x.body[k]) rfl (by simp only [go_sem, getD_map, h3']; rfl) rfl b_ref08_Right (by simp only [go_sem]; exact WkL.refl _) rfl (fun hg => by simp only [go_sem]; try (intros; first | assumption | trivial | simp_all)) ?_
    simp only [go_sem]
    refine vops_go tabOk [] (by simp only [go_sem, getD_map, h3']; rfl) (by first | (simp [h3']; done) | (simp [h3']; omega)) ?_
    refine vops_done [1, 4, 76] ?_
    simp only [go_sem, thenQ, blockQ, jumpQ, stayQ]
    refine oB (fun h4 => ?_) fun h4 => ?_
    ·
     refine oR [2] ?_
     refine vwp_ret ?_
     simp only [thenQ, blockQ, jumpQ, stayQ, RetQ, go_sem]
     refine ⟨by simp, Wk.eq ?_⟩
     rw [patchB, not_all primB _ k h3' (by simpa using h4)]; simp
    ·
     refine vwp_skip ?_
     try simp only [thenQ, blockQ, jumpQ, stayQ]
     refine vwp_reg1 tabOk [] [1, 4] (by simp only [go_sem]; rfl) (by first | trivial | (simp; done) | (simp [in64]; omega)) ?_
     try simp only [thenQ, blockQ, jumpQ, stayQ]
     exact ⟨k + 1, ⟨by omega, by rw [take_all primB _ _ h3', hok3]; simpa using h4⟩, by omega, (wC (wC (Env.wk_nil _))), (by first | rfl | trivial)⟩
   ·
    refine vwp_exit ?_
    simp only [thenQ, blockQ, jumpQ, stayQ, if_true, reduceIte, Nat.reduceEqDiff]
    refine oR [2] ?_
    refine vwp_ret ?_
    simp only [thenQ, blockQ, jumpQ, stayQ, RetQ, go_sem]
    refine ⟨by simp, Wk.eq ?_⟩
    have e1 : i = x.deps.length := by simp at h1; omega
    have e2 : k = x.body.length := by simp at h3; omega
    subst e1; subst e2; rw [List.take_length] at hok hok3; rw [patchB, hok, hok3]; simp at h0; simp [h0]; omega
end Go.Proofs.YtnobnefabagbhaaGreatDoor.Q
end

section
/- Walks of what makes bytes, and of what is too much, in the logic 'Q'. -/
namespace Go.Proofs.YtnobnefabagbhaaGreatDoor.Q
open Go Go.Q
theorem b_ref13_number : bodied Go.Proofs.Tryz.prog 150 = true := by rw [bodied, Tryz.func150]; rfl
theorem c_ref13_number (n : Int) (h : in64 n) : VPure Go.Proofs.Tryz.prog G 150 [.int .i64 n] (.str (num n)) := by
 refine vpure_of (ts := [2]) Tryz.func150 rfl (by simp [Tryz.ntmps150]) rfl rfl ?_
 rw [Tryz.ntmps150]
 refine oR [0] ?_
 refine vwp_seq (vwp_region ?_)
 refine vops_go tabOk [] (by simp only [go_sem]; rfl) (by first | trivial | (simp; done) | (have := Lib.itoa_length_le n h.1 h.2; simp [maxB]; omega)) ?_
 refine oC (fun _ => c_Itoa n h) b_strconv_Itoa ?_
 simp only [go_sem]
 refine vops_go tabOk [] (by simp only [go_sem]; rfl) (by first | trivial | (simp; done) | (have := Lib.itoa_length_le n h.1 h.2; simp [maxB]; omega)) ?_
 refine vops_done [2] ?_
 simp only [go_sem, thenQ, blockQ, jumpQ, stayQ]
 refine vwp_ret ?_
 simp only [thenQ, blockQ, jumpQ, stayQ, RetQ, go_sem]
 refine ⟨by simp, Wk.eq ?_⟩
 rfl
theorem b_ref13_text : bodied Go.Proofs.Tryz.prog 148 = true := by rw [bodied, Tryz.func148]; rfl
theorem c_ref13_text (s : Str) (h : s.length ≤ 1099511627776) : VPure Go.Proofs.Tryz.prog G 148 [.str s] (.str (txt s)) := by
 refine vpure_of (ts := [2]) Tryz.func148 rfl (by simp [Tryz.ntmps148]) rfl rfl ?_
 rw [Tryz.ntmps148]
 refine oR [0] ?_
 refine vwp_seq (vwp_region ?_)
 refine vops_go tabOk [] (by simp only [go_sem]; rfl) (by have := num_len s.length (by simp [in64]; omega); first | trivial | (simp; done) | (simp [maxB]; omega)) ?_
 refine oC (fun _ => c_ref13_number s.length (by simp [in64]; omega)) b_ref13_number ?_
 simp only [go_sem]
 refine vops_go tabOk [] (by simp only [go_sem]; rfl) (by have := num_len s.length (by simp [in64]; omega); first | trivial | (simp; done) | (simp [maxB]; omega)) ?_
 refine vops_done [2] ?_
 simp only [go_sem, thenQ, blockQ, jumpQ, stayQ]
 refine vwp_ret ?_
 simp only [thenQ, blockQ, jumpQ, stayQ, RetQ, go_sem]
 refine ⟨by simp, Wk.eq ?_⟩
 rfl
theorem b_ref13_list : bodied Go.Proofs.Tryz.prog 149 = true := by rw [bodied, Tryz.func149]; rfl
theorem c_ref13_list (l : List Str) (h : (lst l).length ≤ 1099511627776) : VPure Go.Proofs.Tryz.prog G 149 [.list 1 (l.map cS)] (.str (lst l)) := by
 refine vpure_know fun hk => ?_
 simp only [factsL, facts, maxB, List.length_map] at hk
 rw [lst, List.length_append] at h
 refine vpure_of (ts := [2]) Tryz.func149 rfl (by simp [Tryz.ntmps149]) rfl rfl ?_
 rw [Tryz.ntmps149]
 refine oR [0] ?_
 refine vwp_seq (vwp_region ?_)
 refine oG [] ?_
 refine oC (fun _ => c_ref13_number l.length (by simp [in64]; omega)) b_ref13_number ?_
 simp only [go_sem]
 refine oG [] ?_
 refine vops_done [0, 3] ?_
 simp only [go_sem, thenQ, blockQ, jumpQ, stayQ]
 refine vwp_seq ?_
 refine oR [0, 3, 4] ?_
 refine vwp_block ?_
 refine vwp_loopW (fun i : Nat => [(0, .list 1 (l.map cS)), (3, .str (num l.length ++ txts (l.take i))), (4, .int .i64 (i : Int))]) (fun i => []) (fun i => i ≤ l.length) (fun i => l.length - i) 0 (Nat.zero_le _) (Env.wk_cons (Wk.refl _) (Env.wk_cons (Wk.eq (by simp [txts])) (Env.wk_cons (Wk.refl _) (Env.wk_nil _)))) rfl ?_
 rintro i hi
 refine vwp_seq ?_
 refine oR [0, 3, 4, 11] ?_
 refine oB (fun h0 => ?_) fun h0 => ?_
 ·
  have h0' : i < l.length := by simp at h0; omega
  have ht := txts_take l i h0'
  have hle := txts_le l (i + 1)
  rw [ht, List.length_append] at hle
  have hli : (l.getD i []).length ≤ (txt (l.getD i [])).length := by rw [txt, List.length_append]; omega
  rw [getD_lt l i [] h0'] at hli
  refine vwp_skip ?_
  try simp only [thenQ, blockQ, jumpQ, stayQ]
  refine vwp_seq ?_
  refine vwp_block ?_
  refine vwp_region ?_
  refine vops_go tabOk [] (by simp only [go_sem]; rfl) (by first | trivial | (simp; omega) | (simp [maxB, getD_lt l i [] h0', h0']; omega)) ?_
  refine oC (fun _ => c_ref13_text (l.getD i []) (by rw [getD_lt l i [] h0']; omega)) b_ref13_text ?_
  simp only [go_sem]
  refine vops_go tabOk [] (by simp only [go_sem]; rfl) (by first | trivial | (simp; omega) | (simp [maxB, getD_lt l i [] h0', h0']; omega)) ?_
  refine vops_done [0, 3, 4] ?_
  simp only [go_sem, thenQ, blockQ, jumpQ, stayQ]
  try simp only [thenQ, blockQ, jumpQ, stayQ]
  refine vwp_reg1 tabOk [] [0, 3, 4] (by simp only [go_sem]; rfl) (by first | trivial | (simp; done) | (simp [in64]; omega)) ?_
  try simp only [thenQ, blockQ, jumpQ, stayQ]
  exact ⟨i + 1, by omega, by omega, Env.wk_cons (Wk.refl _) (Env.wk_cons (Wk.eq (by rw [txts_take l i h0', getD_lt l i [] h0', List.append_assoc])) (Env.wk_cons (Wk.refl _) (Env.wk_nil _))), by trivial⟩
 ·
  refine vwp_exit ?_
  simp only [thenQ, blockQ, jumpQ, stayQ, if_true, reduceIte, Nat.reduceEqDiff]
  refine oR [2] ?_
  refine vwp_ret ?_
  simp only [thenQ, blockQ, jumpQ, stayQ, RetQ, go_sem]
  refine ⟨by simp, Wk.eq ?_⟩
  have : i = l.length := by simp at h0; omega
  subst this; rw [List.take_length, lst]
theorem b_ref17_text : bodied Go.Proofs.Tryz.prog 111 = true := by rw [bodied, Tryz.func111]; rfl
theorem c_ref17_text (s : Str) (h : s.length ≤ 1099511627776) : VPure Go.Proofs.Tryz.prog G 111 [.str s] (.str (txt s)) := by
 refine vpure_of (ts := [2]) Tryz.func111 rfl (by simp [Tryz.ntmps111]) rfl rfl ?_
 rw [Tryz.ntmps111]
 refine oR [0] ?_
 refine vwp_seq (vwp_region ?_)
 refine vops_go tabOk [] (by simp only [go_sem]; rfl) (by have := Lib.itoa_length_le s.length (by omega) (by omega); first | trivial | (simp; done) | (simp [maxB]; omega)) ?_
 refine oC (fun _ => c_Itoa s.length (by simp [in64]; omega)) b_strconv_Itoa ?_
 simp only [go_sem]
 refine vops_go tabOk [] (by simp only [go_sem]; rfl) (by have := Lib.itoa_length_le s.length (by omega) (by omega); first | trivial | (simp; done) | (simp [maxB]; omega)) ?_
 refine vops_done [2] ?_
 simp only [go_sem, thenQ, blockQ, jumpQ, stayQ]
 refine vwp_ret ?_
 simp only [thenQ, blockQ, jumpQ, stayQ, RetQ, go_sem]
 refine ⟨by simp, Wk.eq ?_⟩
 rfl
theorem b_ref17_list : bodied Go.Proofs.Tryz.prog 82 = true := by rw [bodied, Tryz.func82]; rfl
theorem c_ref17_list (l : List Str) (h : (lst l).length ≤ 1099511627776) : VPure Go.Proofs.Tryz.prog G 82 [.list 1 (l.map cS)] (.str (lst l)) := by
 refine vpure_know fun hk => ?_
 simp only [factsL, facts, maxB, List.length_map] at hk
 rw [lst, List.length_append] at h
 refine vpure_of (ts := [2]) Tryz.func82 rfl (by simp [Tryz.ntmps82]) rfl rfl ?_
 rw [Tryz.ntmps82]
 refine oR [0] ?_
 refine vwp_seq (vwp_region ?_)
 refine vops_go tabOk [] (by simp only [go_sem]; rfl) (by have := Lib.itoa_length_le l.length (by omega) (by omega); first | trivial | (simp; done) | (simp [maxB]; omega)) ?_
 refine oC (fun _ => c_Itoa l.length (by simp [in64]; omega)) b_strconv_Itoa ?_
 simp only [go_sem]
 refine vops_go tabOk [] (by simp only [go_sem]; rfl) (by have := Lib.itoa_length_le l.length (by omega) (by omega); first | trivial | (simp; done) | (simp [maxB]; omega)) ?_
 refine vops_done [0, 3] ?_
 simp only [go_sem, thenQ, blockQ, jumpQ, stayQ]
 refine vwp_seq ?_
 refine oR [0, 3, 4] ?_
 refine vwp_block ?_
 refine vwp_loopW (fun i : Nat => [(0, .list 1 (l.map cS)), (3, .str (num l.length ++ txts (l.take i))), (4, .int .i64 (i : Int))]) (fun i => []) (fun i => i ≤ l.length) (fun i => l.length - i) 0 (Nat.zero_le _) (Env.wk_cons (Wk.refl _) (Env.wk_cons (Wk.eq (by simp [txts, num])) (Env.wk_cons (Wk.refl _) (Env.wk_nil _)))) rfl ?_
 rintro i hi
 refine vwp_seq ?_
 refine oR [0, 3, 4, 12] ?_
 refine oB (fun h0 => ?_) fun h0 => ?_
 ·
  have h0' : i < l.length := by simp at h0; omega
  have ht := txts_take l i h0'
  have hle := txts_le l (i + 1)
  rw [ht, List.length_append] at hle
  have hli : (l.getD i []).length ≤ (txt (l.getD i [])).length := by rw [txt, List.length_append]; omega
  rw [getD_lt l i [] h0'] at hli
  refine vwp_skip ?_
  try simp only [thenQ, blockQ, jumpQ, stayQ]
  refine vwp_seq ?_
  refine vwp_block ?_
  refine vwp_region ?_
  refine vops_go tabOk [] (by simp only [go_sem]; rfl) (by first | trivial | (simp; omega) | (simp [maxB, getD_lt l i [] h0', h0']; omega)) ?_
  refine oC (fun _ => c_ref17_text (l.getD i []) (by rw [getD_lt l i [] h0']; omega)) b_ref17_text ?_
  simp only [go_sem]
  refine vops_go tabOk [] (by simp only [go_sem]; rfl) (by first | trivial | (simp; omega) | (simp [maxB, getD_lt l i [] h0', h0']; omega)) ?_
  refine vops_done [0, 3, 4] ?_
  simp only [go_sem, thenQ, blockQ, jumpQ, stayQ]
  try simp only [thenQ, blockQ, jumpQ, stayQ]
  refine vwp_reg1 tabOk [] [0, 3, 4] (by simp only [go_sem]; rfl) (by first | trivial | (simp; done) | (simp [in64]; omega)) ?_
  try simp only [thenQ, blockQ, jumpQ, stayQ]
  exact ⟨i + 1, by omega, by omega, Env.wk_cons (Wk.refl _) (Env.wk_cons (Wk.eq (by rw [txts_take l i h0', getD_lt l i [] h0', List.append_assoc])) (Env.wk_cons (Wk.refl _) (Env.wk_nil _))), by trivial⟩
 ·
  refine vwp_exit ?_
  simp only [thenQ, blockQ, jumpQ, stayQ, if_true, reduceIte, Nat.reduceEqDiff]
  refine oR [2] ?_
  refine vwp_ret ?_
  simp only [thenQ, blockQ, jumpQ, stayQ, RetQ, go_sem]
  refine ⟨by simp, Wk.eq ?_⟩
  have : i = l.length := by simp at h0; omega
  subst this; rw [List.take_length, lst]
theorem b_ref17_Same : bodied Go.Proofs.Tryz.prog 16 = true := by rw [bodied, Tryz.func16]; rfl
theorem c_ref17_Same (x y : Msg) : VPure Go.Proofs.Tryz.prog G 16 [.agg (cMsg x), .agg (cMsg y)] (.bool (decide (x = y))) := by
 refine vpure_of (ts := [4]) Tryz.func16 rfl (by simp [Tryz.ntmps16]) rfl rfl ?_
 rw [Tryz.ntmps16]
 refine oR [2, 3] ?_
 refine vwp_seq (vwp_region ?_)
 refine oG [] ?_
 refine oC (fun _ => c_ref05_Same x.names y.names) b_ref05_Same ?_
 simp only [go_sem]
 refine oG [] ?_
 refine oC (fun _ => c_ref05_Same x.have_ y.have_) b_ref05_Same ?_
 simp only [go_sem]
 refine oG [] ?_
 refine oC (fun _ => c_ref13_SameList x.patches y.patches) b_ref13_SameList ?_
 simp only [go_sem]
 refine oG [] ?_
 refine vops_done [4] ?_
 simp only [go_sem, thenQ, blockQ, jumpQ, stayQ]
 refine vwp_ret ?_
 simp only [thenQ, blockQ, jumpQ, stayQ, RetQ, go_sem]
 refine ⟨by simp, Wk.eq ?_⟩
 rw [msg_eq]; simp only [Bool.cond_false_right]
theorem b_law08_Great : bodied Go.Proofs.Tryz.prog 90 = true := by rw [bodied, Tryz.func90]; rfl
theorem c_law08_Great (x : Prim) : VPure Go.Proofs.Tryz.prog G 90 [.agg (cPrim x)] (.bool (greatPrim x)) := by
 refine vpure_know fun hk => ?_
 simp only [factsL, facts, cPrim, maxB, List.length_map] at hk
 have c1 := cap_le x.path.length
 have c2 := cap_le x.to.length
 have c3 := cap_le x.frm.length
 refine vpure_of (ts := [2]) Tryz.func90 rfl (by simp [Tryz.ntmps90]) rfl rfl ?_
 rw [Tryz.ntmps90]
 refine oR [1] ?_
 refine vwp_reg tabOk [] [1, 3] (by simp only [go_sem]; rfl) (by first | trivial | (simp; done) | (simp [in64, cap_int]; omega) | (have c1 := cap_le x.path.length; have c2 := cap_le x.to.length; have c3 := cap_le x.frm.length; simp [in64, cap_int]; omega)) ?_
 refine vwp_seq ?_
 refine oR [1, 3, 4] ?_
 refine vwp_block ?_
 refine vwp_loopW (fun y : Nat × Nat => [(1, .ptr 0 0), (3, .int .i64 (y.1 : Int)), (4, .int .i64 (y.2 : Int))]) (fun y => [.box (cPrim x)]) (fun y => y.2 ≤ x.old.length ∧ y.1 = cap x.path.length + cap x.to.length + cap x.frm.length + x.old.length + x.new.length + capsum (x.old.take y.2) ∧ y.1 ≤ 281474976910656 + 12000 + 4000 * y.2) (fun y => x.old.length - y.2) (cap x.path.length + cap x.to.length + cap x.frm.length + x.old.length + x.new.length, 0) ⟨Nat.zero_le _, by simp [capsum], by simp; omega⟩ (Env.wk_cons (by first | exact Wk.refl _ | exact Wk.nils _ | (refine Wk.eq ?_; simp; done) | (refine Wk.eq ?_; simp [cap_int]; done) | (refine Wk.eq ?_; congr 1 <;> omega)) (Env.wk_cons (by first | exact Wk.refl _ | exact Wk.nils _ | (refine Wk.eq ?_; simp; done) | (refine Wk.eq ?_; simp [cap_int]; done) | (refine Wk.eq ?_; congr 1 <;> omega)) (Env.wk_cons (by first | exact Wk.refl _ | exact Wk.nils _ | (refine Wk.eq ?_; simp; done) | (refine Wk.eq ?_; simp [cap_int]; done) | (refine Wk.eq ?_; congr 1 <;> omega)) (Env.wk_nil _)))) rfl ?_
 rintro y ⟨hi, hv, hb⟩
 refine vwp_seq ?_
 refine oR [1, 3, 4, 36] ?_
 refine oB (fun h0 => ?_) fun h0 => ?_
 ·
  have h0' : y.2 < x.old.length := by simp at h0; omega
  refine vwp_skip ?_
  try simp only [thenQ, blockQ, jumpQ, stayQ]
  refine vwp_seq ?_
  refine vwp_block ?_
  refine vwp_reg1 tabOk [] [1, 3, 4] (by simp only [go_sem]; rfl) (by first | trivial | (have c4 := cap_le (x.old.getD y.2 []).length; simp [in64, cap_int, h0', -List.getD_eq_getElem?_getD]; omega)) ?_
  try simp only [thenQ, blockQ, jumpQ, stayQ]
  refine vwp_reg1 tabOk [] [1, 3, 4] (by simp only [go_sem]; rfl) (by first | trivial | (simp; done) | (simp [in64]; omega)) ?_
  try simp only [thenQ, blockQ, jumpQ, stayQ]
  exact ⟨(y.1 + cap (x.old.getD y.2 []).length, y.2 + 1), ⟨by simp; omega, by simp only []; rw [capsum_take _ _ h0', getD_lt x.old y.2 [] h0']; omega, by have := cap_le (x.old.getD y.2 []).length; simp only []; omega⟩, by simp; omega, (Env.wk_cons (by first | exact Wk.refl _ | exact Wk.nils _ | (refine Wk.eq ?_; simp; done) | (refine Wk.eq ?_; simp [cap_int]; done) | (refine Wk.eq ?_; congr 1 <;> omega)) (Env.wk_cons (by first | exact Wk.refl _ | exact Wk.nils _ | (refine Wk.eq ?_; simp; done) | (refine Wk.eq ?_; simp [cap_int]; done) | (refine Wk.eq ?_; congr 1 <;> omega)) (Env.wk_cons (by first | exact Wk.refl _ | exact Wk.nils _ | (refine Wk.eq ?_; simp; done) | (refine Wk.eq ?_; simp [cap_int]; done) | (refine Wk.eq ?_; congr 1 <;> omega)) (Env.wk_nil _)))), (by first | rfl | trivial)⟩
 ·
  refine vwp_exit ?_
  simp only [thenQ, blockQ, jumpQ, stayQ, if_true, reduceIte, Nat.reduceEqDiff]
  refine vwp_seq ?_
  refine oR [1, 3, 5] ?_
  refine vwp_block ?_
  refine vwp_loopW (fun z : Nat × Nat => [(1, .ptr 0 0), (3, .int .i64 (z.1 : Int)), (5, .int .i64 (z.2 : Int))]) (fun z => [.box (cPrim x)]) (fun z => z.2 ≤ x.new.length ∧ z.1 = y.1 + capsum (x.new.take z.2) ∧ z.1 ≤ y.1 + 4000 * z.2) (fun z => x.new.length - z.2) (y.1, 0) ⟨Nat.zero_le _, by simp [capsum], by simp⟩ (Env.wk_cons (by first | exact Wk.refl _ | exact Wk.nils _ | (refine Wk.eq ?_; simp; done) | (refine Wk.eq ?_; simp [cap_int]; done) | (refine Wk.eq ?_; congr 1 <;> omega)) (Env.wk_cons (by first | exact Wk.refl _ | exact Wk.nils _ | (refine Wk.eq ?_; simp; done) | (refine Wk.eq ?_; simp [cap_int]; done) | (refine Wk.eq ?_; congr 1 <;> omega)) (Env.wk_cons (by first | exact Wk.refl _ | exact Wk.nils _ | (refine Wk.eq ?_; simp; done) | (refine Wk.eq ?_; simp [cap_int]; done) | (refine Wk.eq ?_; congr 1 <;> omega)) (Env.wk_nil _)))) rfl ?_
  rintro z ⟨hi2, hv2, hb2⟩
  refine vwp_seq ?_
  refine oR [1, 3, 5, 56] ?_
  refine oB (fun h1 => ?_) fun h1 => ?_
  ·
   have h1' : z.2 < x.new.length := by simp at h1; omega
   refine vwp_skip ?_
   try simp only [thenQ, blockQ, jumpQ, stayQ]
   refine vwp_seq ?_
   refine vwp_block ?_
   refine vwp_reg1 tabOk [] [1, 3, 5] (by simp only [go_sem]; rfl) (by first | trivial | (have c4 := cap_le (x.new.getD z.2 []).length; simp [in64, cap_int, h1', -List.getD_eq_getElem?_getD]; omega)) ?_
   try simp only [thenQ, blockQ, jumpQ, stayQ]
   refine vwp_reg1 tabOk [] [1, 3, 5] (by simp only [go_sem]; rfl) (by first | trivial | (simp; done) | (simp [in64]; omega)) ?_
   try simp only [thenQ, blockQ, jumpQ, stayQ]
   exact ⟨(z.1 + cap (x.new.getD z.2 []).length, z.2 + 1), ⟨by simp; omega, by simp only []; rw [capsum_take _ _ h1', getD_lt x.new z.2 [] h1']; omega, by have := cap_le (x.new.getD z.2 []).length; simp only []; omega⟩, by simp; omega, (Env.wk_cons (by first | exact Wk.refl _ | exact Wk.nils _ | (refine Wk.eq ?_; simp; done) | (refine Wk.eq ?_; simp [cap_int]; done) | (refine Wk.eq ?_; congr 1 <;> omega)) (Env.wk_cons (by first | exact Wk.refl _ | exact Wk.nils _ | (refine Wk.eq ?_; simp; done) | (refine Wk.eq ?_; simp [cap_int]; done) | (refine Wk.eq ?_; congr 1 <;> omega)) (Env.wk_cons (by first | exact Wk.refl _ | exact Wk.nils _ | (refine Wk.eq ?_; simp; done) | (refine Wk.eq ?_; simp [cap_int]; done) | (refine Wk.eq ?_; congr 1 <;> omega)) (Env.wk_nil _)))), (by first | rfl | trivial)⟩
  ·
   refine vwp_exit ?_
   simp only [thenQ, blockQ, jumpQ, stayQ, if_true, reduceIte, Nat.reduceEqDiff]
   refine oR [2] ?_
   refine vwp_ret ?_
   simp only [thenQ, blockQ, jumpQ, stayQ, RetQ, go_sem]
   refine ⟨by simp, Wk.eq ?_⟩
   have e1 : 4000 ≤ y.1 ∨ y.2 = x.old.length := by simp at h0; omega
   have e2 : 4000 ≤ z.1 ∨ z.2 = x.new.length := by simp at h1; omega
   have e3 := capsum_le x.old y.2
   have e4 := capsum_le x.new z.2
   congr 1; rw [greatPrim]; refine decide_eq_decide.2 ?_; unfold primSize
   rcases e1 with e1 | e1 <;> rcases e2 with e2 | e2
   ·omega
   ·omega
   ·rw [e1, List.take_length] at hv; omega
   ·rw [e1, List.take_length] at hv; rw [e2, List.take_length] at hv2; omega
theorem b_law08_GreatList : bodied Go.Proofs.Tryz.prog 56 = true := by rw [bodied, Tryz.func56]; rfl
theorem c_law08_GreatList (l : List Prim) : VPure Go.Proofs.Tryz.prog G 56 [.list 7 (l.map cPrim)] (.bool (greatPrims l)) := by
 refine vpure_know fun hk => ?_
 simp only [factsL, facts, maxB, List.length_map] at hk
 refine vpure_of (ts := [2]) Tryz.func56 rfl (by simp [Tryz.ntmps56]) rfl rfl ?_
 rw [Tryz.ntmps56]
 refine oR [0] ?_
 refine vwp_seq ?_
 refine oR [0, 6] ?_
 refine oB (fun h0 => ?_) fun h0 => ?_
 ·
  refine oR [2] ?_
  refine vwp_ret ?_
  simp only [thenQ, blockQ, jumpQ, stayQ, RetQ, go_sem]
  refine ⟨by simp, Wk.eq ?_⟩
  simp at h0; rw [greatPrims]; congr 1; symm; simp; left; omega
 ·
  refine vwp_skip ?_
  try simp only [thenQ, blockQ, jumpQ, stayQ]
  refine vwp_seq ?_
  refine oR [0, 3] ?_
  refine vwp_block ?_
  refine vwp_loopW (fun i : Nat => [(0, .list 7 (l.map cPrim)), (3, .int .i64 (i : Int))]) (fun i => []) (fun i => i ≤ l.length ∧ (l.take i).any greatPrim = false) (fun i => l.length - i) 0 ⟨Nat.zero_le _, by rfl⟩ (wC (wC (Env.wk_nil _))) rfl ?_
  rintro i ⟨hi, hok⟩
  refine vwp_seq ?_
  refine oR [0, 3, 10] ?_
  refine oB (fun h1 => ?_) fun h1 => ?_
  ·
   have h1' : i < l.length := by simp at h1; omega
   refine vwp_skip ?_
   try simp only [thenQ, blockQ, jumpQ, stayQ]
   refine vwp_seq ?_
   refine vwp_block ?_
   refine vwp_seq (vwp_region ?_)
   refine vops_go tabOk [] (by simp only [go_sem, getD_map, h1']; rfl) (by first | trivial | (simp [h1']; done) | (simp [h1']; omega)) ?_
   refine vops_call (hc := fun _ => c_law08_Great l[i]) rfl (by simp only [go_sem, getD_map, h1']; rfl) rfl b_law08_Great (by simp only [go_sem]; exact WkL.refl _) rfl (fun hg => by simp only [go_sem]; try (intros; first | assumption | trivial | simp_all)) ?_
   simp only [go_sem]
   refine vops_done [0, 3, 17] ?_
   simp only [go_sem, thenQ, blockQ, jumpQ, stayQ]
   refine oB (fun h2 => ?_) fun h2 => ?_
   ·
    refine oR [2] ?_
    refine vwp_ret ?_
    simp only [thenQ, blockQ, jumpQ, stayQ, RetQ, go_sem]
    refine ⟨by simp, Wk.eq ?_⟩
    rw [greatPrims, any_true _ _ i h1' h2, Bool.or_true]
   ·
    refine vwp_skip ?_
    try simp only [thenQ, blockQ, jumpQ, stayQ]
    refine vwp_reg1 tabOk [] [0, 3] (by simp only [go_sem]; rfl) (by first | trivial | (simp; done) | (simp [in64]; omega)) ?_
    try simp only [thenQ, blockQ, jumpQ, stayQ]
    exact ⟨i + 1, ⟨by omega, by rw [take_any _ _ _ h1', hok, h2]; rfl⟩, by omega, (wC (wC (Env.wk_nil _))), (by first | rfl | trivial)⟩
  ·
   refine vwp_exit ?_
   simp only [thenQ, blockQ, jumpQ, stayQ, if_true, reduceIte, Nat.reduceEqDiff]
   refine oR [2] ?_
   refine vwp_ret ?_
   simp only [thenQ, blockQ, jumpQ, stayQ, RetQ, go_sem]
   refine ⟨by simp, Wk.eq ?_⟩
   have : i = l.length := by simp at h1; omega
   subst this; rw [List.take_length] at hok; rw [greatPrims, hok]; simp at h0; congr 1; symm; simp; omega
theorem b_law13_Great : bodied Go.Proofs.Tryz.prog 26 = true := by rw [bodied, Tryz.func26]; rfl
theorem c_law13_Great (x : Patch) : VPure Go.Proofs.Tryz.prog G 26 [.agg (cPatch x)] (.bool (greatPatch x)) := by
 refine vpure_know fun hk => ?_
 simp only [factsL, facts, cPatch, maxB, List.length_map] at hk
 have c1 := cap_le x.name.length
 refine vpure_of (ts := [2]) Tryz.func26 rfl (by simp [Tryz.ntmps26]) rfl rfl ?_
 rw [Tryz.ntmps26]
 refine oR [1] ?_
 refine vwp_reg tabOk [] [1, 3] (by simp only [go_sem]; rfl) (by first | trivial | (simp; done) | (simp [in64, cap_int]; omega) | (have c1 := cap_le x.name.length; simp [in64, cap_int]; omega)) ?_
 refine vwp_seq ?_
 refine oR [1, 3, 4] ?_
 refine vwp_block ?_
 refine vwp_loopW (fun y : Nat × Nat => [(1, .ptr 0 0), (3, .int .i64 (y.1 : Int)), (4, .int .i64 (y.2 : Int))]) (fun y => [.box (cPatch x)]) (fun y => y.2 ≤ x.deps.length ∧ y.1 = cap x.name.length + x.deps.length + capsum (x.deps.take y.2) ∧ y.1 ≤ 281474976910656 + 12000 + 4000 * y.2) (fun y => x.deps.length - y.2) (cap x.name.length + x.deps.length, 0) ⟨Nat.zero_le _, by simp [capsum], by simp; omega⟩ (Env.wk_cons (by first | exact Wk.refl _ | exact Wk.nils _ | (refine Wk.eq ?_; simp; done) | (refine Wk.eq ?_; simp [cap_int]; done) | (refine Wk.eq ?_; congr 1 <;> omega)) (Env.wk_cons (by first | exact Wk.refl _ | exact Wk.nils _ | (refine Wk.eq ?_; simp; done) | (refine Wk.eq ?_; simp [cap_int]; done) | (refine Wk.eq ?_; congr 1 <;> omega)) (Env.wk_cons (by first | exact Wk.refl _ | exact Wk.nils _ | (refine Wk.eq ?_; simp; done) | (refine Wk.eq ?_; simp [cap_int]; done) | (refine Wk.eq ?_; congr 1 <;> omega)) (Env.wk_nil _)))) rfl ?_
 rintro y ⟨hi, hv, hb⟩
 refine vwp_seq ?_
 refine oR [1, 3, 4, 21] ?_
 refine oB (fun h0 => ?_) fun h0 => ?_
 ·
  have h0' : y.2 < x.deps.length := by simp at h0; omega
  refine vwp_skip ?_
  try simp only [thenQ, blockQ, jumpQ, stayQ]
  refine vwp_seq ?_
  refine vwp_block ?_
  refine vwp_reg1 tabOk [] [1, 3, 4] (by simp only [go_sem]; rfl) (by first | trivial | (have c4 := cap_le (x.deps.getD y.2 []).length; simp [in64, cap_int, h0', -List.getD_eq_getElem?_getD]; omega)) ?_
  try simp only [thenQ, blockQ, jumpQ, stayQ]
  refine vwp_reg1 tabOk [] [1, 3, 4] (by simp only [go_sem]; rfl) (by first | trivial | (simp; done) | (simp [in64]; omega)) ?_
  try simp only [thenQ, blockQ, jumpQ, stayQ]
  exact ⟨(y.1 + cap (x.deps.getD y.2 []).length, y.2 + 1), ⟨by simp; omega, by simp only []; rw [capsum_take _ _ h0', getD_lt x.deps y.2 [] h0']; omega, by have := cap_le (x.deps.getD y.2 []).length; simp only []; omega⟩, by simp; omega, (Env.wk_cons (by first | exact Wk.refl _ | exact Wk.nils _ | (refine Wk.eq ?_; simp; done) | (refine Wk.eq ?_; simp [cap_int]; done) | (refine Wk.eq ?_; congr 1 <;> omega)) (Env.wk_cons (by first | exact Wk.refl _ | exact Wk.nils _ | (refine Wk.eq ?_; simp; done) | (refine Wk.eq ?_; simp [cap_int]; done) | (refine Wk.eq ?_; congr 1 <;> omega)) (Env.wk_cons (by first | exact Wk.refl _ | exact Wk.nils _ | (refine Wk.eq ?_; simp; done) | (refine Wk.eq ?_; simp [cap_int]; done) | (refine Wk.eq ?_; congr 1 <;> omega)) (Env.wk_nil _)))), (by first | rfl | trivial)⟩
 ·
  refine vwp_exit ?_
  simp only [thenQ, blockQ, jumpQ, stayQ, if_true, reduceIte, Nat.reduceEqDiff]
  refine vwp_seq (vwp_region ?_)
  refine oG [] ?_
  refine oC (fun _ => c_law08_GreatList x.body) b_law08_GreatList ?_
  simp only [go_sem]
  refine oG [] ?_
  refine vops_done [2] ?_
  simp only [go_sem, thenQ, blockQ, jumpQ, stayQ]
  refine vwp_ret ?_
  simp only [thenQ, blockQ, jumpQ, stayQ, RetQ, go_sem]
  refine ⟨by simp, Wk.eq ?_⟩
  have e1 : 4000 ≤ y.1 ∨ y.2 = x.deps.length := by simp at h0; omega
  have e3 := capsum_le x.deps y.2
  have e4 : decide (4000 ≤ patchSize x) = decide (4000 ≤ (y.1 : Int)) := by
   refine decide_eq_decide.2 ?_; unfold patchSize
   rcases e1 with e1 | e1
   ·omega
   ·rw [e1, List.take_length] at hv; omega
  rw [greatPatch, e4]; simp only [Bool.cond_true_left]
theorem b_law13_GreatList : bodied Go.Proofs.Tryz.prog 9 = true := by rw [bodied, Tryz.func9]; rfl
theorem c_law13_GreatList (l : List Patch) : VPure Go.Proofs.Tryz.prog G 9 [.list 3 (l.map cPatch)] (.bool (greatPatches l)) := by
 refine vpure_know fun hk => ?_
 simp only [factsL, facts, maxB, List.length_map] at hk
 refine vpure_of (ts := [2]) Tryz.func9 rfl (by simp [Tryz.ntmps9]) rfl rfl ?_
 rw [Tryz.ntmps9]
 refine oR [0] ?_
 refine vwp_seq ?_
 refine oR [0, 7] ?_
 refine oB (fun h0 => ?_) fun h0 => ?_
 ·
  refine oR [2] ?_
  refine vwp_ret ?_
  simp only [thenQ, blockQ, jumpQ, stayQ, RetQ, go_sem]
  refine ⟨by simp, Wk.eq ?_⟩
  simp at h0; rw [greatPatches]; congr 1; symm; simp; left; omega
 ·
  refine vwp_skip ?_
  try simp only [thenQ, blockQ, jumpQ, stayQ]
  refine oR [0, 3] ?_
  refine vwp_seq ?_
  refine oR [0, 3, 4] ?_
  refine vwp_block ?_
  refine vwp_loopW (fun y : Nat × Nat => [(0, .list 3 (l.map cPatch)), (3, .int .i64 (y.1 : Int)), (4, .int .i64 (y.2 : Int))]) (fun y => []) (fun y => y.2 ≤ l.length ∧ y.1 = patchTot (l.take y.2) ∧ (l.take y.2).any greatPatch = false ∧ y.1 ≤ 500) (fun y => l.length - y.2) (0, 0) ⟨Nat.zero_le _, by rfl, by rfl, by simp⟩ (wC (wC (wC (Env.wk_nil _)))) rfl ?_
  rintro y ⟨hi, hv, hok, hb⟩
  refine vwp_seq ?_
  refine oR [0, 3, 4, 11] ?_
  refine oB (fun h1 => ?_) fun h1 => ?_
  ·
   have h1' : y.2 < l.length := by simp at h1; omega
   have hf := facts_map hk.1.2 l[y.2] (List.getElem_mem h1')
   simp only [cPatch, factsL, facts, maxB, List.length_map] at hf
   refine vwp_skip ?_
   try simp only [thenQ, blockQ, jumpQ, stayQ]
   refine vwp_seq ?_
   refine vwp_block ?_
   refine vwp_seq (vwp_drawD mixed (by kernel_rfl) (eF := ?_) ?_ [0, 3, 4] rfl ?_)
   rotate_left
   ·
    refine dall_go tabOk (by simp only [go_sem, getD_map, h1']; rfl) (by first | trivial | (simp [h1']; done) | (simp [h1', in64]; omega)) ?_
    exact dall_nil
   simp only [go_sem, thenQ, blockQ, jumpQ, stayQ]
   refine vwp_seq (vwp_region ?_)
   refine vops_go tabOk [] (by simp only [go_sem, getD_map, h1']; rfl) (by first | trivial | (simp [h1']; done) | (simp [h1', in64]; omega)) ?_
   refine vops_call (hc := fun _ => c_law13_Great l[y.2]) rfl (by simp only [go_sem, getD_map, h1']; rfl) rfl b_law13_Great (by simp only [go_sem]; exact WkL.refl _) rfl (fun hg => by simp only [go_sem]; try (intros; first | assumption | trivial | simp_all)) ?_
   simp only [go_sem]
   refine vops_go tabOk [] (by simp only [go_sem, getD_map, h1']; rfl) (by first | trivial | (simp [h1']; done) | (simp [h1', in64]; omega)) ?_
   refine vops_done [0, 3, 4, 38] ?_
   simp only [go_sem, thenQ, blockQ, jumpQ, stayQ]
   refine oB (fun h2 => ?_) fun h2 => ?_
   ·
    refine oR [2] ?_
    refine vwp_ret ?_
    simp only [thenQ, blockQ, jumpQ, stayQ, RetQ, go_sem]
    refine ⟨by simp, Wk.eq ?_⟩
    rw [greatPatches]; congr 1; symm; simp only [Bool.or_eq_true, decide_eq_true_eq]; right; rw [Bool.cond_true_left, Bool.or_eq_true] at h2; rcases h2 with h2 | h2
    ·left; exact any_true _ _ _ h1' h2
    ·right; have e1 := patchTot_le l (y.2 + 1); rw [patchTot_take _ _ h1'] at e1; simp at h2; omega
   ·
    refine vwp_skip ?_
    try simp only [thenQ, blockQ, jumpQ, stayQ]
    refine vwp_reg1 tabOk [] [0, 3, 4] (by simp only [go_sem]; rfl) (by first | trivial | (simp; done) | (simp [in64]; omega)) ?_
    try simp only [thenQ, blockQ, jumpQ, stayQ]
    exact ⟨(y.1 + (1 + l[y.2].body.length + l[y.2].deps.length), y.2 + 1), ⟨by simp; omega, by simp only []; rw [patchTot_take _ _ h1', hv], by simp only []; simp at h2; rw [take_any _ _ _ h1', hok, h2.1]; rfl, by simp at h2; simp only []; omega⟩, by simp; omega, (wC (wC (wC (Env.wk_nil _)))), (by first | rfl | trivial)⟩
  ·
   refine vwp_exit ?_
   simp only [thenQ, blockQ, jumpQ, stayQ, if_true, reduceIte, Nat.reduceEqDiff]
   refine oR [2] ?_
   refine vwp_ret ?_
   simp only [thenQ, blockQ, jumpQ, stayQ, RetQ, go_sem]
   refine ⟨by simp, Wk.eq ?_⟩
   have : y.2 = l.length := by simp at h1; omega
   rw [this, List.take_length] at hok hv; rw [greatPatches, hok]; simp at h0; congr 1; symm; simp; omega
theorem b_law17_Great : bodied Go.Proofs.Tryz.prog 11 = true := by rw [bodied, Tryz.func11]; rfl
theorem c_law17_Great (x : Msg) : VPure Go.Proofs.Tryz.prog G 11 [.agg (cMsg x)] (.bool (greatMsg x)) := by
 refine vpure_know fun hk => ?_
 simp only [factsL, facts, cMsg, maxB, List.length_map] at hk
 refine vpure_of (ts := [2]) Tryz.func11 rfl (by simp [Tryz.ntmps11]) rfl rfl ?_
 rw [Tryz.ntmps11]
 refine oR [1] ?_
 refine oR [1, 3] ?_
 refine vwp_seq ?_
 refine oR [1, 3, 4] ?_
 refine vwp_block ?_
 refine vwp_loopW (fun y : Nat × Nat => [(1, .ptr 0 0), (3, .int .i64 (y.1 : Int)), (4, .int .i64 (y.2 : Int))]) (fun y => [.box (cMsg x)]) (fun y => y.2 ≤ x.names.length ∧ y.1 = x.names.length + x.have_.length + capsum2 (x.names.take y.2) ∧ y.1 ≤ 281474976910656 + 12000 + 4000 * y.2) (fun y => x.names.length - y.2) (x.names.length + x.have_.length, 0) ⟨Nat.zero_le _, by simp [capsum2], by simp; omega⟩ (Env.wk_cons (by first | exact Wk.refl _ | exact Wk.nils _ | (refine Wk.eq ?_; simp; done) | (refine Wk.eq ?_; simp [cap2_int]; done) | (refine Wk.eq ?_; congr 1 <;> omega)) (Env.wk_cons (by first | exact Wk.refl _ | exact Wk.nils _ | (refine Wk.eq ?_; simp; done) | (refine Wk.eq ?_; simp [cap2_int]; done) | (refine Wk.eq ?_; congr 1 <;> omega)) (Env.wk_cons (by first | exact Wk.refl _ | exact Wk.nils _ | (refine Wk.eq ?_; simp; done) | (refine Wk.eq ?_; simp [cap2_int]; done) | (refine Wk.eq ?_; congr 1 <;> omega)) (Env.wk_nil _)))) rfl ?_
 rintro y ⟨hi, hv, hb⟩
 refine vwp_seq ?_
 refine oR [1, 3, 4, 21] ?_
 refine oB (fun h0 => ?_) fun h0 => ?_
 ·
  have h0' : y.2 < x.names.length := by simp at h0; omega
  refine vwp_skip ?_
  try simp only [thenQ, blockQ, jumpQ, stayQ]
  refine vwp_seq ?_
  refine vwp_block ?_
  refine vwp_reg1 tabOk [] [1, 3, 4] (by simp only [go_sem]; rfl) (by first | trivial | (have c4 := cap2_le (x.names.getD y.2 []).length; simp [in64, cap2_int, h0', -List.getD_eq_getElem?_getD]; omega)) ?_
  try simp only [thenQ, blockQ, jumpQ, stayQ]
  refine vwp_reg1 tabOk [] [1, 3, 4] (by simp only [go_sem]; rfl) (by first | trivial | (simp; done) | (simp [in64]; omega)) ?_
  try simp only [thenQ, blockQ, jumpQ, stayQ]
  exact ⟨(y.1 + cap2 (x.names.getD y.2 []).length, y.2 + 1), ⟨by simp; omega, by simp only []; rw [capsum2_take _ _ h0', getD_lt x.names y.2 [] h0']; omega, by have := cap2_le (x.names.getD y.2 []).length; simp only []; omega⟩, by simp; omega, (Env.wk_cons (by first | exact Wk.refl _ | exact Wk.nils _ | (refine Wk.eq ?_; simp; done) | (refine Wk.eq ?_; simp [cap2_int]; done) | (refine Wk.eq ?_; congr 1 <;> omega)) (Env.wk_cons (by first | exact Wk.refl _ | exact Wk.nils _ | (refine Wk.eq ?_; simp; done) | (refine Wk.eq ?_; simp [cap2_int]; done) | (refine Wk.eq ?_; congr 1 <;> omega)) (Env.wk_cons (by first | exact Wk.refl _ | exact Wk.nils _ | (refine Wk.eq ?_; simp; done) | (refine Wk.eq ?_; simp [cap2_int]; done) | (refine Wk.eq ?_; congr 1 <;> omega)) (Env.wk_nil _)))), (by first | rfl | trivial)⟩
 ·
  refine vwp_exit ?_
  simp only [thenQ, blockQ, jumpQ, stayQ, if_true, reduceIte, Nat.reduceEqDiff]
  refine vwp_seq ?_
  refine oR [1, 3, 5] ?_
  refine vwp_block ?_
  refine vwp_loopW (fun z : Nat × Nat => [(1, .ptr 0 0), (3, .int .i64 (z.1 : Int)), (5, .int .i64 (z.2 : Int))]) (fun z => [.box (cMsg x)]) (fun z => z.2 ≤ x.have_.length ∧ z.1 = y.1 + capsum2 (x.have_.take z.2) ∧ z.1 ≤ y.1 + 4000 * z.2) (fun z => x.have_.length - z.2) (y.1, 0) ⟨Nat.zero_le _, by simp [capsum2], by simp⟩ (Env.wk_cons (by first | exact Wk.refl _ | exact Wk.nils _ | (refine Wk.eq ?_; simp; done) | (refine Wk.eq ?_; simp [cap2_int]; done) | (refine Wk.eq ?_; congr 1 <;> omega)) (Env.wk_cons (by first | exact Wk.refl _ | exact Wk.nils _ | (refine Wk.eq ?_; simp; done) | (refine Wk.eq ?_; simp [cap2_int]; done) | (refine Wk.eq ?_; congr 1 <;> omega)) (Env.wk_cons (by first | exact Wk.refl _ | exact Wk.nils _ | (refine Wk.eq ?_; simp; done) | (refine Wk.eq ?_; simp [cap2_int]; done) | (refine Wk.eq ?_; congr 1 <;> omega)) (Env.wk_nil _)))) rfl ?_
  rintro z ⟨hi2, hv2, hb2⟩
  refine vwp_seq ?_
  refine oR [1, 3, 5, 41] ?_
  refine oB (fun h1 => ?_) fun h1 => ?_
  ·
   have h1' : z.2 < x.have_.length := by simp at h1; omega
   refine vwp_skip ?_
   try simp only [thenQ, blockQ, jumpQ, stayQ]
   refine vwp_seq ?_
   refine vwp_block ?_
   refine vwp_reg1 tabOk [] [1, 3, 5] (by simp only [go_sem]; rfl) (by first | trivial | (have c4 := cap2_le (x.have_.getD z.2 []).length; simp [in64, cap2_int, h1', -List.getD_eq_getElem?_getD]; omega)) ?_
   try simp only [thenQ, blockQ, jumpQ, stayQ]
   refine vwp_reg1 tabOk [] [1, 3, 5] (by simp only [go_sem]; rfl) (by first | trivial | (simp; done) | (simp [in64]; omega)) ?_
   try simp only [thenQ, blockQ, jumpQ, stayQ]
   exact ⟨(z.1 + cap2 (x.have_.getD z.2 []).length, z.2 + 1), ⟨by simp; omega, by simp only []; rw [capsum2_take _ _ h1', getD_lt x.have_ z.2 [] h1']; omega, by have := cap2_le (x.have_.getD z.2 []).length; simp only []; omega⟩, by simp; omega, (Env.wk_cons (by first | exact Wk.refl _ | exact Wk.nils _ | (refine Wk.eq ?_; simp; done) | (refine Wk.eq ?_; simp [cap2_int]; done) | (refine Wk.eq ?_; congr 1 <;> omega)) (Env.wk_cons (by first | exact Wk.refl _ | exact Wk.nils _ | (refine Wk.eq ?_; simp; done) | (refine Wk.eq ?_; simp [cap2_int]; done) | (refine Wk.eq ?_; congr 1 <;> omega)) (Env.wk_cons (by first | exact Wk.refl _ | exact Wk.nils _ | (refine Wk.eq ?_; simp; done) | (refine Wk.eq ?_; simp [cap2_int]; done) | (refine Wk.eq ?_; congr 1 <;> omega)) (Env.wk_nil _)))), (by first | rfl | trivial)⟩
  ·
   refine vwp_exit ?_
   simp only [thenQ, blockQ, jumpQ, stayQ, if_true, reduceIte, Nat.reduceEqDiff]
   refine vwp_seq (vwp_region ?_)
   refine oG [] ?_
   refine oC (fun _ => c_law13_GreatList x.patches) b_law13_GreatList ?_
   simp only [go_sem]
   refine oG [] ?_
   refine vops_done [2] ?_
   simp only [go_sem, thenQ, blockQ, jumpQ, stayQ]
   refine vwp_ret ?_
   simp only [thenQ, blockQ, jumpQ, stayQ, RetQ, go_sem]
   refine ⟨by simp, Wk.eq ?_⟩
   have e1 : 2000 ≤ y.1 ∨ y.2 = x.names.length := by simp at h0; omega
   have e2 : 2000 ≤ z.1 ∨ z.2 = x.have_.length := by simp at h1; omega
   have e3 := capsum2_le x.names y.2
   have e4 := capsum2_le x.have_ z.2
   have e5 : decide (2000 ≤ msgSize x) = decide (2000 ≤ (z.1 : Int)) := by
    refine decide_eq_decide.2 ?_; unfold msgSize
    rcases e1 with e1 | e1 <;> rcases e2 with e2 | e2
    ·omega
    ·omega
    ·rw [e1, List.take_length] at hv; omega
    ·rw [e1, List.take_length] at hv; rw [e2, List.take_length] at hv2; omega
   rw [greatMsg, e5]; simp only [Bool.cond_true_left]
theorem b_ref17_labels : bodied Go.Proofs.Tryz.prog 109 = true := by rw [bodied, Tryz.func109]; rfl
theorem c_ref17_labels (l : List Str) : VPure Go.Proofs.Tryz.prog G 109 [.list 1 (l.map cS)] (.bool (namesB l)) := by
 refine vpure_know fun hk => ?_
 simp only [factsL, facts, maxB, List.length_map] at hk
 refine vpure_of (ts := [2]) Tryz.func109 rfl (by simp [Tryz.ntmps109]) rfl rfl ?_
 rw [Tryz.ntmps109]
 refine oR [0] ?_
 refine vwp_seq ?_
 refine oR [0, 3] ?_
 refine vwp_block ?_
 refine vwp_loopW (fun i : Nat => [(0, .list 1 (l.map cS)), (3, .int .i64 (i : Int))]) (fun i => []) (fun i => i ≤ l.length ∧ namesB (l.take i) = true) (fun i => l.length - i) 0 ⟨Nat.zero_le _, by rfl⟩ (wC (wC (Env.wk_nil _))) rfl ?_
 rintro i ⟨hi, hok⟩
 refine vwp_seq ?_
 refine oR [0, 3, 7] ?_
 refine oB (fun h0 => ?_) fun h0 => ?_
 ·
  have h0' : i < l.length := by simp at h0; omega
  refine vwp_skip ?_
  try simp only [thenQ, blockQ, jumpQ, stayQ]
  refine vwp_seq ?_
  refine vwp_block ?_
  refine vwp_seq (vwp_drawD mixed (by kernel_rfl) (eF := ?_) ?_ [0, 3, 31] rfl ?_)
  rotate_left
  ·
   refine dall_go tabOk (by simp only [go_sem]; rfl) (by first | (simp [h0']; done) | (simp [h0', in64]; omega) | (simp [h0', in64]; repeat' (first | omega | intro _ | constructor))) ?_
   refine dall_call (hc := fun _ => c_ref13_Label (l.getD i [])) rfl (by simp only [go_sem]; rfl) b_ref13_Label (by simp only [go_sem]; exact WkL.refl _) rfl (fun hg => by simp only [go_sem]; try (intros; first | assumption | trivial | simp_all)) ?_
   simp only [go_sem]
   refine dall_go tabOk (by simp only [go_sem]; rfl) (by first | (simp [h0']; done) | (simp [h0', in64]; omega) | (simp [h0', in64]; repeat' (first | omega | intro _ | constructor))) ?_
   exact dall_nil
  simp only [go_sem, thenQ, blockQ, jumpQ, stayQ]
  refine oB (fun h1 => ?_) fun h1 => ?_
  ·
   refine oR [2] ?_
   refine vwp_ret ?_
   simp only [thenQ, blockQ, jumpQ, stayQ, RetQ, go_sem]
   refine ⟨by simp, Wk.eq ?_⟩
   rw [stepN_go] at h1; rw [namesB_false _ i h0' (by simpa using h1)]
  ·
   refine vwp_skip ?_
   try simp only [thenQ, blockQ, jumpQ, stayQ]
   refine vwp_reg1 tabOk [] [0, 3] (by simp only [go_sem]; rfl) (by first | trivial | (simp; done) | (simp [in64]; omega)) ?_
   try simp only [thenQ, blockQ, jumpQ, stayQ]
   exact ⟨i + 1, ⟨by omega, by rw [namesB_take _ _ h0', hok]; rw [stepN_go] at h1; simpa using h1⟩, by omega, (wC (wC (Env.wk_nil _))), (by first | rfl | trivial)⟩
 ·
  refine vwp_exit ?_
  simp only [thenQ, blockQ, jumpQ, stayQ, if_true, reduceIte, Nat.reduceEqDiff]
  refine oR [2] ?_
  refine vwp_ret ?_
  simp only [thenQ, blockQ, jumpQ, stayQ, RetQ, go_sem]
  refine ⟨by simp, Wk.eq ?_⟩
  have : i = l.length := by simp at h0; omega
  subst this; rw [List.take_length] at hok; rw [hok]
end Go.Proofs.YtnobnefabagbhaaGreatDoor.Q
end

section
/- Walks of the readers, in the logic 'Q'. -/
namespace Go.Proofs.YtnobnefabagbhaaGreatDoor.Q
open Go Go.Q
end Go.Proofs.YtnobnefabagbhaaGreatDoor.Q
end

section
/- Walks of what writes and reads patches, in the logic 'Q'. -/
namespace Go.Proofs.YtnobnefabagbhaaGreatDoor.Q
open Go Go.Q
theorem b_ref13_Put : bodied Go.Proofs.Tryz.prog 110 = true := by rw [bodied, Tryz.func110]; rfl
set_option maxHeartbeats 40000000 in
theorem c_ref13_Put (x : Patch) (h : (patchEnc x).length ≤ 1000000000) : VPure Go.Proofs.Tryz.prog G 110 [.agg (cPatch x)] (.tuple [.list 1 ((putPatch x).1.map encB), .int .i64 (putPatch x).2]) := by
 refine vpure_know fun hk => ?_
 simp only [factsL, facts, cPatch, maxB, List.length_map] at hk
 have hB := h
 rw [patchEnc, List.length_append, List.length_append, List.length_append] at hB
 have hn := txt_ge x.name
 refine vpure_of (ts := [2, 3]) Tryz.func110 rfl (by simp [Tryz.ntmps110]) rfl rfl ?_
 rw [Tryz.ntmps110]
 refine oR [1] ?_
 refine vwp_seq ?_
 refine vwp_seq (vwp_region ?_)
 refine oG [] ?_
 refine oC (fun _ => c_ref13_Right x) b_ref13_Right ?_
 simp only [go_sem]
 refine oG [] ?_
 refine vops_done [1, 9] ?_
 simp only [go_sem, thenQ, blockQ, jumpQ, stayQ]
 refine oB (fun h0 => ?_) fun h0 => ?_
 ·
  refine oR [2, 3] ?_
  refine vwp_ret ?_
  simp only [thenQ, blockQ, jumpQ, stayQ, RetQ, go_sem]
  refine ⟨by simp, ?_⟩
  rw [show putPatch x = ([], 1) from by rw [putPatch, if_neg (by simpa using h0)]]
  exact Wk.tuple ⟨Wk.nils _, Wk.refl _, trivial⟩
 ·
  refine vwp_skip ?_
  try simp only [thenQ, blockQ, jumpQ, stayQ]
  refine oR [1, 4] ?_
  refine vwp_own 4 5 1 rfl ?_
  refine vwp_keep [1, 4] ?_
  simp only [go_sem]
  refine vwp_seq (vwp_drawE1 mixed (by kernel_rfl) 13 [0, 0, 0, 0, 0, 0, 0, 0, 0, 0, 0, 0, 0, 0, 1] (by kernel_rfl) (f0 := ?f0_r4) (f1 := ?f1_r4) (H1 := ?H1_r4) (g1 := ?g1_r4) (v1 := ?v1_r4) (by simp only [go_sem]; rfl) ?hs0_r4 ?he1_r4 ?hg1_r4 ?hs1_r4 ?hk1_r4 ?hv1_r4 [1, 4] rfl ?hq_r4)
  case hs0_r4 =>
   refine dstage_go tabOk (by simp only [go_sem]; rfl) (by first | trivial | (simp; done) | (simp [maxB]; omega)) ?_
   refine dstage_call (hc := fun _ => c_ref13_text x.name (by omega)) rfl (by simp only [go_sem]; rfl) b_ref13_text (by simp only [go_sem]; exact WkL.refl _) rfl (fun hg => by simp only [go_sem]) rfl (by decide) ?_
   refine dstage_go tabOk (by simp only [go_sem]; rfl) (by first | trivial | (simp; done) | (simp [maxB]; omega)) ?_
   refine dstage_call (hc := fun _ => c_ref13_list x.deps (by omega)) rfl (by simp only [go_sem]; rfl) b_ref13_list (by simp only [go_sem]; exact WkL.refl _) rfl (fun hg => by simp only [go_sem]) rfl (by decide) ?_
   refine dstage_go tabOk (by simp only [go_sem]; rfl) (by first | trivial | (simp; done) | (simp [maxB]; omega)) ?_
   refine dstage_call (hc := fun _ => c_ref13_number x.body.length (by simp [in64]; omega)) rfl (by simp only [go_sem]; rfl) b_ref13_number (by simp only [go_sem]; exact WkL.refl _) rfl (fun hg => by simp only [go_sem]) rfl (by decide) ?_
   refine dstage_go tabOk (by simp only [go_sem]; rfl) (by first | trivial | (simp; done) | (simp [maxB]; omega)) ?_
   exact dstage_nil
  case he1_r4 =>
   refine effOk_app (O := ?O0_r4) tabOk ?h0_r4 ?hO0_r4
   case h0_r4 => simp only [go_sem]; exact rfl
   case hO0_r4 => simp; omega
  case hg1_r4 => rfl
  case hs1_r4 =>
   refine dstage_go tabOk (by simp only [go_sem]; rfl) (by first | trivial | (simp; done) | (simp [maxB]; omega)) ?_
   refine dstage_call (hc := fun _ => c_ref13_text x.name (by omega)) rfl (by simp only [go_sem]; rfl) b_ref13_text (by simp only [go_sem]; exact WkL.refl _) rfl (fun hg => by simp only [go_sem]) rfl (by decide) ?_
   refine dstage_go tabOk (by simp only [go_sem]; rfl) (by first | trivial | (simp; done) | (simp [maxB]; omega)) ?_
   refine dstage_call (hc := fun _ => c_ref13_list x.deps (by omega)) rfl (by simp only [go_sem]; rfl) b_ref13_list (by simp only [go_sem]; exact WkL.refl _) rfl (fun hg => by simp only [go_sem]) rfl (by decide) ?_
   refine dstage_go tabOk (by simp only [go_sem]; rfl) (by first | trivial | (simp; done) | (simp [maxB]; omega)) ?_
   refine dstage_call (hc := fun _ => c_ref13_number x.body.length (by simp [in64]; omega)) rfl (by simp only [go_sem]; rfl) b_ref13_number (by simp only [go_sem]; exact WkL.refl _) rfl (fun hg => by simp only [go_sem]) rfl (by decide) ?_
   refine dstage_go tabOk (by simp only [go_sem]; rfl) (by first | trivial | (simp; done) | (simp [maxB]; omega)) ?_
   exact dstage_nil
  case hk1_r4 => simp [keptOk, inStage, mapE, go_sem]
  case hv1_r4 => simp [mapE, go_sem]
  simp only [go_sem, mapE, thenQ, blockQ, jumpQ, stayQ]
  refine vwp_seq ?_
  refine oR [1, 4, 5] ?_
  refine vwp_block ?_
  refine vwp_loopW (fun i : Nat => [(1, .ptr 0 0), (4, .arr 1 (txt x.name ++ lst x.deps ++ num x.body.length ++ prims (x.body.take i)).length), (5, .int .i64 (i : Int))]) (fun i => [.box (cPatch x), .arr 5 1 ((txt x.name ++ lst x.deps ++ num x.body.length ++ prims (x.body.take i)).map encB)]) (fun i => i ≤ x.body.length) (fun i => x.body.length - i) 0 (Nat.zero_le _) (Env.wk_cons (Wk.refl _) (Env.wk_cons (Wk.eq (by simp [prims])) (Env.wk_cons (Wk.refl _) (Env.wk_nil _)))) (by simp [prims, cPatch]) ?_
  rintro i hi
  refine vwp_seq ?_
  refine oR [1, 4, 5, 28] ?_
  refine oB (fun h1 => ?_) fun h1 => ?_
  ·
   have h1' : i < x.body.length := by simp at h1; omega
   have hb := primB_bounds (patchB_prim (by simpa using h0) i h1')
   have hle := prims_le x.body (i + 1)
   rw [prims_take x.body i h1', List.length_append] at hle
   have he : (primEnc x.body[i]).length = (primEnc x.body[i]).length := rfl
   conv at he => rhs; rw [primEnc]
   simp only [List.length_append] at he
   have g1 := txt_ge x.body[i].path
   have g2 := txt_ge x.body[i].to
   have g3 := txt_ge x.body[i].frm
   refine vwp_skip ?_
   try simp only [thenQ, blockQ, jumpQ, stayQ]
   refine vwp_seq ?_
   refine vwp_block ?_
   refine vwp_reg tabOk [] [1, 4, 5, 6] (by simp only [go_sem, getD_map, h1']; rfl) (by first | trivial | (simp [h1']; done) | (simp [h1']; omega)) ?_
   refine vwp_drawE1 mixed (by kernel_rfl) 28 [0, 0, 0, 0, 0, 0, 0, 0, 0, 0, 0, 0, 0, 0, 0, 0, 0, 0, 0, 0, 0, 0, 0, 0, 0, 0, 0, 0, 0, 1] (by kernel_rfl) (f0 := ?f0_r9) (f1 := ?f1_r9) (H1 := ?H1_r9) (g1 := ?g1_r9) (v1 := ?v1_r9) (by simp only [go_sem]; rfl) ?hs0_r9 ?he1_r9 ?hg1_r9 ?hs1_r9 ?hk1_r9 ?hv1_r9 [1, 4, 5] rfl ?hq_r9
   case hs0_r9 =>
    refine dstage_go tabOk (by simp only [go_sem]; rfl) (by first | trivial | (simp; done) | (simp [maxB]; omega)) ?_
    refine dstage_call (hc := fun _ => c_ref13_number x.body[i].kind hb.1) rfl (by simp only [go_sem]; rfl) b_ref13_number (by simp only [go_sem]; exact WkL.refl _) rfl (fun hg => by simp only [go_sem]) rfl (by decide) ?_
    refine dstage_go tabOk (by simp only [go_sem]; rfl) (by first | trivial | (simp; done) | (simp [maxB]; omega)) ?_
    refine dstage_call (hc := fun _ => c_ref13_text x.body[i].path (by omega)) rfl (by simp only [go_sem]; rfl) b_ref13_text (by simp only [go_sem]; exact WkL.refl _) rfl (fun hg => by simp only [go_sem]) rfl (by decide) ?_
    refine dstage_go tabOk (by simp only [go_sem]; rfl) (by first | trivial | (simp; done) | (simp [maxB]; omega)) ?_
    refine dstage_call (hc := fun _ => c_ref13_text x.body[i].to (by omega)) rfl (by simp only [go_sem]; rfl) b_ref13_text (by simp only [go_sem]; exact WkL.refl _) rfl (fun hg => by simp only [go_sem]) rfl (by decide) ?_
    refine dstage_go tabOk (by simp only [go_sem]; rfl) (by first | trivial | (simp; done) | (simp [maxB]; omega)) ?_
    refine dstage_call (hc := fun _ => c_ref13_text x.body[i].frm (by omega)) rfl (by simp only [go_sem]; rfl) b_ref13_text (by simp only [go_sem]; exact WkL.refl _) rfl (fun hg => by simp only [go_sem]) rfl (by decide) ?_
    refine dstage_go tabOk (by simp only [go_sem]; rfl) (by first | trivial | (simp; done) | (simp [maxB]; omega)) ?_
    refine dstage_call (hc := fun _ => c_ref13_number x.body[i].at_ hb.2) rfl (by simp only [go_sem]; rfl) b_ref13_number (by simp only [go_sem]; exact WkL.refl _) rfl (fun hg => by simp only [go_sem]) rfl (by decide) ?_
    refine dstage_go tabOk (by simp only [go_sem]; rfl) (by first | trivial | (simp; done) | (simp [maxB]; omega)) ?_
    refine dstage_call (hc := fun _ => c_ref13_list x.body[i].old (by omega)) rfl (by simp only [go_sem]; rfl) b_ref13_list (by simp only [go_sem]; exact WkL.refl _) rfl (fun hg => by simp only [go_sem]) rfl (by decide) ?_
    refine dstage_go tabOk (by simp only [go_sem]; rfl) (by first | trivial | (simp; done) | (simp [maxB]; omega)) ?_
    refine dstage_call (hc := fun _ => c_ref13_list x.body[i].new (by omega)) rfl (by simp only [go_sem]; rfl) b_ref13_list (by simp only [go_sem]; exact WkL.refl _) rfl (fun hg => by simp only [go_sem]) rfl (by decide) ?_
    refine dstage_go tabOk (by simp only [go_sem]; rfl) (by first | trivial | (simp; done) | (simp [maxB]; omega)) ?_
    exact dstage_nil
   case he1_r9 =>
    refine effOk_app (O := ?O0_r9) tabOk ?h0_r9 ?hO0_r9
    case h0_r9 => simp only [go_sem]; exact rfl
    case hO0_r9 => simp; omega
   case hg1_r9 => rfl
   case hs1_r9 =>
    refine dstage_go tabOk (by simp only [go_sem]; rfl) (by first | trivial | (simp; done) | (simp [maxB]; omega)) ?_
    refine dstage_call (hc := fun _ => c_ref13_number x.body[i].kind hb.1) rfl (by simp only [go_sem]; rfl) b_ref13_number (by simp only [go_sem]; exact WkL.refl _) rfl (fun hg => by simp only [go_sem]) rfl (by decide) ?_
    refine dstage_go tabOk (by simp only [go_sem]; rfl) (by first | trivial | (simp; done) | (simp [maxB]; omega)) ?_
    refine dstage_call (hc := fun _ => c_ref13_text x.body[i].path (by omega)) rfl (by simp only [go_sem]; rfl) b_ref13_text (by simp only [go_sem]; exact WkL.refl _) rfl (fun hg => by simp only [go_sem]) rfl (by decide) ?_
    refine dstage_go tabOk (by simp only [go_sem]; rfl) (by first | trivial | (simp; done) | (simp [maxB]; omega)) ?_
    refine dstage_call (hc := fun _ => c_ref13_text x.body[i].to (by omega)) rfl (by simp only [go_sem]; rfl) b_ref13_text (by simp only [go_sem]; exact WkL.refl _) rfl (fun hg => by simp only [go_sem]) rfl (by decide) ?_
    refine dstage_go tabOk (by simp only [go_sem]; rfl) (by first | trivial | (simp; done) | (simp [maxB]; omega)) ?_
    refine dstage_call (hc := fun _ => c_ref13_text x.body[i].frm (by omega)) rfl (by simp only [go_sem]; rfl) b_ref13_text (by simp only [go_sem]; exact WkL.refl _) rfl (fun hg => by simp only [go_sem]) rfl (by decide) ?_
    refine dstage_go tabOk (by simp only [go_sem]; rfl) (by first | trivial | (simp; done) | (simp [maxB]; omega)) ?_
    refine dstage_call (hc := fun _ => c_ref13_number x.body[i].at_ hb.2) rfl (by simp only [go_sem]; rfl) b_ref13_number (by simp only [go_sem]; exact WkL.refl _) rfl (fun hg => by simp only [go_sem]) rfl (by decide) ?_
    refine dstage_go tabOk (by simp only [go_sem]; rfl) (by first | trivial | (simp; done) | (simp [maxB]; omega)) ?_
    refine dstage_call (hc := fun _ => c_ref13_list x.body[i].old (by omega)) rfl (by simp only [go_sem]; rfl) b_ref13_list (by simp only [go_sem]; exact WkL.refl _) rfl (fun hg => by simp only [go_sem]) rfl (by decide) ?_
    refine dstage_go tabOk (by simp only [go_sem]; rfl) (by first | trivial | (simp; done) | (simp [maxB]; omega)) ?_
    refine dstage_call (hc := fun _ => c_ref13_list x.body[i].new (by omega)) rfl (by simp only [go_sem]; rfl) b_ref13_list (by simp only [go_sem]; exact WkL.refl _) rfl (fun hg => by simp only [go_sem]) rfl (by decide) ?_
    refine dstage_go tabOk (by simp only [go_sem]; rfl) (by first | trivial | (simp; done) | (simp [maxB]; omega)) ?_
    exact dstage_nil
   case hk1_r9 => simp [keptOk, inStage, mapE, go_sem]
   case hv1_r9 => simp [mapE, go_sem]
   simp only [go_sem, mapE, thenQ, blockQ, jumpQ, stayQ]
   try simp only [thenQ, blockQ, jumpQ, stayQ]
   refine vwp_trim 2 (by simp) (by simp) ?_
   simp only [go_sem]
   refine vwp_reg1 tabOk [] [1, 4, 5] (by simp only [go_sem]; rfl) (by first | trivial | (simp; done) | (simp [in64]; omega)) ?_
   try simp only [thenQ, blockQ, jumpQ, stayQ]
   exact ⟨i + 1, by omega, by omega, Env.wk_cons (Wk.refl _) (Env.wk_cons (Wk.eq (by rw [prims_take x.body i h1', primEnc]; simp [Nat.add_assoc])) (Env.wk_cons (Wk.refl _) (Env.wk_nil _))), by rw [prims_take x.body i h1', primEnc]; simp [cPatch]⟩
  ·
   refine vwp_exit ?_
   simp only [thenQ, blockQ, jumpQ, stayQ, if_true, reduceIte, Nat.reduceEqDiff]
   refine oR [2, 3] ?_
   refine vwp_ret ?_
   simp only [thenQ, blockQ, jumpQ, stayQ, RetQ, go_sem]
   refine ⟨by simp, Wk.eq ?_⟩
   have e1 : i = x.body.length := by simp at h1; omega
   rw [show putPatch x = (patchEnc x, 0) from by rw [putPatch, if_pos (by simpa using h0)], List.take_of_length_le (by simp), e1, List.take_length, patchEnc]
end Go.Proofs.YtnobnefabagbhaaGreatDoor.Q
end

section
/- Walks of the document's reading of patches, in the logic 'Q'. -/
namespace Go.Proofs.YtnobnefabagbhaaGreatDoor.Q
open Go Go.Q
theorem b_ref14_Sorted : bodied Go.Proofs.Tryz.prog 35 = true := by rw [bodied, Tryz.func35]; rfl
set_option maxHeartbeats 4000000 in
theorem c_ref14_Sorted (l : List Patch) : VPure Go.Proofs.Tryz.prog G 35 [.list 3 (l.map cPatch)] (.tuple [.list 3 ((sortP l).1.map cPatch), .int .i64 (sortP l).2]) := by
 refine vpure_know fun hk => ?_
 simp only [factsL, facts, maxB, List.length_map] at hk
 refine vpure_of (ts := [2, 3]) Tryz.func35 rfl (by simp [Tryz.ntmps35]) rfl rfl ?_
 rw [Tryz.ntmps35]
 refine oR [0] ?_
 refine vwp_seq ?_
 refine oR [0, 11] ?_
 refine oB (fun h0 => ?_) fun h0 => ?_
 ·
  refine oR [2, 3] ?_
  refine vwp_ret ?_
  simp only [thenQ, blockQ, jumpQ, stayQ, RetQ, go_sem]
  refine ⟨by simp, ?_⟩
  rw [show sortP l = ([], 1) from by rw [sortP, sortedP, if_pos (by simp at h0; omega)]]
  exact Wk.tuple ⟨Wk.nils _, Wk.refl _, trivial⟩
 ·
  have h256 : l.length ≤ 256 := by simp at h0; omega
  refine vwp_skip ?_
  try simp only [thenQ, blockQ, jumpQ, stayQ]
  refine oR [0, 4] ?_
  refine vwp_seq ?_
  refine oR [0, 4, 5] ?_
  refine vwp_block ?_
  refine vwp_loopW (fun y : Nat × List Patch => [(0, .list 3 (l.map cPatch)), (4, .list 3 (y.2.map cPatch)), (5, .int .i64 (y.1 : Int))]) (fun y => []) (fun y => y.1 ≤ l.length ∧ sortGo [] l = sortGo y.2 (l.drop y.1) ∧ y.2.length = y.1) (fun y => l.length - y.1) (0, []) ⟨Nat.zero_le _, rfl, rfl⟩ (wC (wC (wC (Env.wk_nil _)))) rfl ?_
  rintro y ⟨hi, hs, hl⟩
  refine vwp_seq ?_
  refine oR [0, 4, 5, 15] ?_
  refine oB (fun h1 => ?_) fun h1 => ?_
  ·
   have h1' : y.1 < l.length := by simp at h1; omega
   refine vwp_skip ?_
   try simp only [thenQ, blockQ, jumpQ, stayQ]
   refine vwp_seq ?_
   refine vwp_block ?_
   refine vwp_seq ?_
   refine vwp_seq (vwp_region ?_)
   refine vops_go tabOk [] (by simp only [go_sem, getD_map, h1']; rfl) (by first | trivial | (simp [h1']; done) | (simp [h1']; omega)) ?_
   refine vops_call (hc := fun _ => c_ref13_Right l[y.1]) rfl (by simp only [go_sem, getD_map, h1']; rfl) rfl b_ref13_Right (by simp only [go_sem]; exact WkL.refl _) rfl (fun hg => by simp only [go_sem]; try (intros; first | assumption | trivial | simp_all)) ?_
   simp only [go_sem]
   refine vops_go tabOk [] (by simp only [go_sem, getD_map, h1']; rfl) (by first | trivial | (simp [h1']; done) | (simp [h1']; omega)) ?_
   refine vops_done [0, 4, 5, 23] ?_
   simp only [go_sem, thenQ, blockQ, jumpQ, stayQ]
   refine oB (fun h2 => ?_) fun h2 => ?_
   ·
    refine oR [2, 3] ?_
    refine vwp_ret ?_
    simp only [thenQ, blockQ, jumpQ, stayQ, RetQ, go_sem]
    refine ⟨by simp, ?_⟩
    rw [show sortP l = ([], 1) from by rw [sortP, sortedP, if_neg (by omega), hs, List.drop_eq_getElem_cons h1', sortGo, if_neg (by simp at h2; simp [h2])]]
    exact Wk.tuple ⟨Wk.nils _, Wk.refl _, trivial⟩
   ·
    refine vwp_skip ?_
    try simp only [thenQ, blockQ, jumpQ, stayQ]
    refine oR [0, 4, 5, 6] ?_
    refine oR [0, 4, 5, 6, 7] ?_
    refine vwp_seq ?_
    refine oR [0, 4, 5, 6, 7, 8] ?_
    refine vwp_block ?_
    refine vwp_own 6 45 3 rfl ?_
    refine vwp_keep [0, 4, 5, 6, 7, 8] ?_
    simp only [go_sem]
    refine vwp_loopW (fun z : Nat => [(0, .list 3 (l.map cPatch)), (4, .list 3 (y.2.map cPatch)), (5, .int .i64 (y.1 : Int)), (6, .arr 0 (insQ l[y.1] (y.2.take z)).length), (7, .bool ((y.2.take z).any fun q => strGt q.name l[y.1].name)), (8, .int .i64 (z : Int))]) (fun z => [.arr 45 3 ((insQ l[y.1] (y.2.take z)).map cPatch)]) (fun z => z ≤ y.2.length ∧ hasN (y.2.take z) l[y.1].name = false) (fun z => y.2.length - z) 0 ⟨Nat.zero_le _, rfl⟩ (wC (wC (wC (wC (wC (wC (Env.wk_nil _))))))) rfl ?_
    rintro z ⟨hz, hn⟩
    refine vwp_seq ?_
    refine oR [0, 4, 5, 6, 7, 8, 27] ?_
    refine oB (fun h3 => ?_) fun h3 => ?_
    ·
     have h3' : z < y.2.length := by simp at h3; omega
     have hB := insQ_le l[y.1] (y.2.take z)
     rw [List.length_take] at hB
     refine vwp_skip ?_
     try simp only [thenQ, blockQ, jumpQ, stayQ]
     refine vwp_seq ?_
     refine vwp_block ?_
     refine vwp_seq ?_
     refine vwp_seq (vwp_drawD mixed (by kernel_rfl) (eF := ?_) ?_ [0, 4, 5, 6, 7, 8, 40] rfl ?_)
     rotate_left
     ·
      refine dall_go tabOk (by simp only [go_sem, getD_map, h1', h3']; rfl) (by first | trivial | (simp [h1', h3']; done) | (simp [h1', h3']; omega)) ?_
      exact dall_nil
     simp only [go_sem, thenQ, blockQ, jumpQ, stayQ]
     refine oB (fun h4 => ?_) fun h4 => ?_
     ·
      refine oR [2, 3] ?_
      refine vwp_ret ?_
      simp only [thenQ, blockQ, jumpQ, stayQ, RetQ, go_sem]
      refine ⟨by simp, ?_⟩
      have hh : hasN y.2 l[y.1].name = true := any_true _ _ z h3' h4
      rw [show sortP l = ([], 1) from by rw [sortP, sortedP, if_neg (by omega), hs, List.drop_eq_getElem_cons h1', sortGo, if_neg (by simp [hh])]]
      exact Wk.tuple ⟨Wk.nils _, Wk.refl _, trivial⟩
     ·
      refine vwp_skip ?_
      try simp only [thenQ, blockQ, jumpQ, stayQ]
      refine vwp_seq ?_
      refine vwp_seq (vwp_drawD mixed (by kernel_rfl) (eF := ?_) ?_ [0, 4, 5, 6, 7, 8, 55] rfl ?_)
      rotate_left
      ·
       refine dall_go tabOk (by simp only [go_sem, getD_map, h1', h3']; rfl) (by first | trivial | (simp [h1', h3']; done) | (simp [h1', h3']; omega)) ?_
       exact dall_nil
      simp only [go_sem, thenQ, blockQ, jumpQ, stayQ]
      refine oB (fun h5 => ?_) fun h5 => ?_
      ·
       refine vwp_reg tabOk [] [0, 4, 5, 6, 8] (by simp only [go_sem, getD_map, h1']; rfl) (by first | trivial | (simp [h1', hB]; done) | (simp [h1']; omega)) ?_
       refine vwp_reg1 tabOk [] [0, 4, 5, 6, 7, 8] (by simp only [go_sem]; rfl) (by first | trivial | (simp; done) | (simp [in64]; omega)) ?_
       try simp only [thenQ, blockQ, jumpQ, stayQ]
       refine vwp_reg1 tabOk [] [0, 4, 5, 6, 7, 8] (by simp only [go_sem, getD_map, h3']; rfl) (by first | trivial | (simp [h3', hB]; done) | (simp [h3']; omega)) ?_
       try simp only [thenQ, blockQ, jumpQ, stayQ]
       refine vwp_reg1 tabOk [] [0, 4, 5, 6, 7, 8] (by simp only [go_sem]; rfl) (by first | trivial | (simp; done) | (simp [in64]; omega)) ?_
       try simp only [thenQ, blockQ, jumpQ, stayQ]
       have hn2 : hasN (y.2.take (z + 1)) l[y.1].name = false := by rw [hasN, take_any _ _ _ h3', ← hasN, hn]; exact h4
       have h5' : (!((y.2.take z).any fun q => strGt q.name l[y.1].name) && strGt y.2[z].name l[y.1].name) = true := by rw [strGt, ← h5]; cases ((y.2.take z).any fun q => strGt q.name l[y.1].name) <;> rfl
       have ha2 : ((y.2.take (z + 1)).any fun q => strGt q.name l[y.1].name) = true := by rw [take_any _ _ _ h3']; revert h5'; cases ((y.2.take z).any fun q => strGt q.name l[y.1].name) <;> simp
       exact ⟨z + 1, ⟨by omega, hn2⟩, by omega, Env.wk_cons (Wk.refl _) (Env.wk_cons (Wk.refl _) (Env.wk_cons (Wk.refl _) (Env.wk_cons (Wk.eq (by rw [insQ_take _ _ _ h3', if_pos (by simp [h5'])]; simp)) (Env.wk_cons (Wk.eq (by rw [ha2])) (Env.wk_cons (Wk.eq (by congr 1)) (Env.wk_nil _)))))), by rw [insQ_take _ _ _ h3', if_pos (by simp [h5'])]; simp [cPatch]⟩
      ·
       refine vwp_skip ?_
       try simp only [thenQ, blockQ, jumpQ, stayQ]
       refine vwp_reg1 tabOk [] [0, 4, 5, 6, 7, 8] (by simp only [go_sem, getD_map, h3']; rfl) (by first | trivial | (simp [h3', hB]; done) | (simp [h3']; omega)) ?_
       try simp only [thenQ, blockQ, jumpQ, stayQ]
       refine vwp_reg1 tabOk [] [0, 4, 5, 6, 7, 8] (by simp only [go_sem]; rfl) (by first | trivial | (simp; done) | (simp [in64]; omega)) ?_
       try simp only [thenQ, blockQ, jumpQ, stayQ]
       have hn2 : hasN (y.2.take (z + 1)) l[y.1].name = false := by rw [hasN, take_any _ _ _ h3', ← hasN, hn]; exact h4
       have h5' : (!((y.2.take z).any fun q => strGt q.name l[y.1].name) && strGt y.2[z].name l[y.1].name) = false := by rw [strGt, ← h5]; cases ((y.2.take z).any fun q => strGt q.name l[y.1].name) <;> rfl
       have ha2 : ((y.2.take (z + 1)).any fun q => strGt q.name l[y.1].name) = ((y.2.take z).any fun q => strGt q.name l[y.1].name) := by rw [take_any _ _ _ h3']; revert h5'; cases ((y.2.take z).any fun q => strGt q.name l[y.1].name) <;> simp
       exact ⟨z + 1, ⟨by omega, hn2⟩, by omega, Env.wk_cons (Wk.refl _) (Env.wk_cons (Wk.refl _) (Env.wk_cons (Wk.refl _) (Env.wk_cons (Wk.eq (by rw [insQ_take _ _ _ h3', if_neg (by simp [h5'])]; simp)) (Env.wk_cons (Wk.eq (by rw [ha2])) (Env.wk_cons (Wk.eq (by congr 1)) (Env.wk_nil _)))))), by rw [insQ_take _ _ _ h3', if_neg (by simp [h5'])]; simp [cPatch]⟩
    ·
     have hze : z = y.2.length := by simp at h3; omega
     subst hze
     rw [List.take_length] at hn
     have hgo : (patchB l[y.1] && !hasN y.2 l[y.1].name) = true := by rw [hn]; simpa using h2
     have hB := insQ_le l[y.1] y.2
     rw [List.take_length]
     refine vwp_exit ?_
     simp only [thenQ, blockQ, jumpQ, stayQ, if_true, reduceIte, Nat.reduceEqDiff]
     refine vwp_seq ?_
     refine oR [0, 5, 6, 71] ?_
     refine oB (fun h6 => ?_) fun h6 => ?_
     ·
      rw [Bool.not_eq_true'] at h6
      have hf := insQ_full l[y.1] y.2
      rw [h6, if_neg (by simp)] at hf
      refine vwp_reg1 tabOk [] [0, 5, 6] (by simp only [go_sem, getD_map, h1']; rfl) (by first | trivial | (simp [h1', hB]; done) | (simp [h1']; omega)) ?_
      try simp only [thenQ, blockQ, jumpQ, stayQ]
      refine vwp_freeze 0 45 3 _ rfl ?_
      simp only [go_sem]
      refine vwp_trim 0 (by simp) (by simp) ?_
      simp only [go_sem, mapE]
      rw [List.take_of_length_le (by simp)]
      refine vwp_reg1 tabOk [] [0, 4, 5] (by simp only [go_sem]; rfl) (by first | trivial | (simp; done) | (simp [in64]; omega)) ?_
      try simp only [thenQ, blockQ, jumpQ, stayQ]
      refine vwp_reg1 tabOk [] [0, 4, 5] (by simp only [go_sem]; rfl) (by first | trivial | (simp; done) | (simp [in64]; omega)) ?_
      try simp only [thenQ, blockQ, jumpQ, stayQ]
      exact ⟨(y.1 + 1, insP l[y.1] y.2), ⟨by simp only []; omega, by simp only []; rw [hs, List.drop_eq_getElem_cons h1', sortGo, if_pos hgo], by simp only []; rw [insP_length, hl]⟩, by simp only []; omega, Env.wk_cons (Wk.refl _) (Env.wk_cons (Wk.eq (by rw [← hf] <;> simp [cPatch])) (Env.wk_cons (Wk.refl _) (Env.wk_nil _))), by trivial⟩
     ·
      rw [Bool.not_eq_false'] at h6
      have hf := insQ_full l[y.1] y.2
      rw [h6, if_pos rfl] at hf
      refine vwp_skip ?_
      try simp only [thenQ, blockQ, jumpQ, stayQ]
      refine vwp_freeze 0 45 3 _ rfl ?_
      simp only [go_sem]
      refine vwp_trim 0 (by simp) (by simp) ?_
      simp only [go_sem, mapE]
      rw [List.take_of_length_le (by simp)]
      refine vwp_reg1 tabOk [] [0, 4, 5] (by simp only [go_sem]; rfl) (by first | trivial | (simp; done) | (simp [in64]; omega)) ?_
      try simp only [thenQ, blockQ, jumpQ, stayQ]
      refine vwp_reg1 tabOk [] [0, 4, 5] (by simp only [go_sem]; rfl) (by first | trivial | (simp; done) | (simp [in64]; omega)) ?_
      try simp only [thenQ, blockQ, jumpQ, stayQ]
      exact ⟨(y.1 + 1, insP l[y.1] y.2), ⟨by simp only []; omega, by simp only []; rw [hs, List.drop_eq_getElem_cons h1', sortGo, if_pos hgo], by simp only []; rw [insP_length, hl]⟩, by simp only []; omega, Env.wk_cons (Wk.refl _) (Env.wk_cons (Wk.eq (by rw [← hf] <;> simp [cPatch])) (Env.wk_cons (Wk.refl _) (Env.wk_nil _))), by trivial⟩
  ·
   refine vwp_exit ?_
   simp only [thenQ, blockQ, jumpQ, stayQ, if_true, reduceIte, Nat.reduceEqDiff]
   refine oR [2, 3] ?_
   refine vwp_ret ?_
   simp only [thenQ, blockQ, jumpQ, stayQ, RetQ, go_sem]
   refine ⟨by simp, Wk.eq ?_⟩
   rw [show sortP l = (y.2, 0) from by rw [sortP, sortedP, if_neg (by omega), hs, show y.1 = l.length by simp at h1; omega, List.drop_length, sortGo]]
end Go.Proofs.YtnobnefabagbhaaGreatDoor.Q
end

section
/- Walks of the document's bundles and messages, in the logic 'Q'. -/
namespace Go.Proofs.YtnobnefabagbhaaGreatDoor.Q
open Go Go.Q
theorem b_ref17_bundle : bodied Go.Proofs.Tryz.prog 80 = true := by rw [bodied, Tryz.func80]; rfl
set_option maxHeartbeats 4000000 in
theorem c_ref17_bundle (l : List Patch) (h : ∀ p ∈ l, (patchEnc p).length ≤ 1000000000) : VPure Go.Proofs.Tryz.prog G 80 [.list 3 (l.map cPatch)] (.tuple [.str (bunR l).1, .int .i64 (bunR l).2]) := by
 have hS := sortP_length l
 have hN := num_nat (sortP l).1.length (by omega)
 rw [num] at hN
 refine vpure_of (ts := [2, 3]) Tryz.func80 rfl (by simp [Tryz.ntmps80]) rfl rfl ?_
 rw [Tryz.ntmps80]
 refine oR [0] ?_
 refine vwp_seq (vwp_region ?_)
 refine oG [] ?_
 refine oC (fun _ => c_ref14_Sorted l) b_ref14_Sorted ?_
 simp only [go_sem]
 refine oG [] ?_
 refine vops_done [0, 4] ?_
 simp only [go_sem, thenQ, blockQ, jumpQ, stayQ]
 refine vwp_seq ?_
 refine oR [0, 15] ?_
 refine oB (fun h0 => ?_) fun h0 => ?_
 ·
  refine oR [2, 3] ?_
  refine vwp_ret ?_
  simp only [thenQ, blockQ, jumpQ, stayQ, RetQ, go_sem]
  refine ⟨by simp, Wk.eq ?_⟩
  have he := sortP_err (l := l)
  rcases he with ⟨e1, _⟩ | ⟨_, e2, _⟩
  ·simp [e1] at h0
  ·rw [bunR, e2]
 ·
  refine vwp_skip ?_
  try simp only [thenQ, blockQ, jumpQ, stayQ]
  refine vwp_seq (vwp_region ?_)
  refine vops_go tabOk [] (by simp only [go_sem]; rfl) (by first | trivial | (simp; done) | (simp [maxB]; simp at hN; omega)) ?_
  refine oC (fun _ => c_Itoa (sortP l).1.length (in64_nat _ (by omega))) b_strconv_Itoa ?_
  simp only [go_sem]
  refine vops_go tabOk [] (by simp only [go_sem]; rfl) (by first | trivial | (simp; done) | (simp [maxB]; simp at hN; omega)) ?_
  refine vops_done [0, 5] ?_
  simp only [go_sem, thenQ, blockQ, jumpQ, stayQ]
  refine vwp_seq ?_
  refine oR [0, 5, 6] ?_
  refine vwp_block ?_
  refine vwp_loopW (fun y : Nat × Str => [(0, .list 3 ((sortP l).1.map cPatch)), (5, .str y.2), (6, .int .i64 (y.1 : Int))]) (fun y => []) (fun y => y.1 ≤ (sortP l).1.length ∧ bunGo (num (sortP l).1.length) (sortP l).1 = bunGo y.2 ((sortP l).1.drop y.1) ∧ y.2.length ≤ 1100000000) (fun y => (sortP l).1.length - y.1) (0, num (sortP l).1.length) ⟨Nat.zero_le _, rfl, by simp only [num]; omega⟩ (wC (wC (wC (Env.wk_nil _)))) rfl ?_
  rintro y ⟨hi, hs, hl⟩
  refine vwp_seq ?_
  refine oR [0, 5, 6, 28] ?_
  refine oB (fun h1 => ?_) fun h1 => ?_
  ·
   have h1' : y.1 < (sortP l).1.length := by simp at h1; omega
   have hle : y.2.length ≤ 32768 := by simp at h1; omega
   have hp := h _ (sortP_mem (List.getElem_mem h1'))
   have hp2 := putPatch_len hp
   have ht := txt_len (putPatch (sortP l).1[y.1]).1 (by omega)
   refine vwp_skip ?_
   try simp only [thenQ, blockQ, jumpQ, stayQ]
   refine vwp_seq ?_
   refine vwp_block ?_
   refine vwp_seq (vwp_region ?_)
   refine vops_go tabOk [] (by simp only [go_sem, getD_map, h1']; rfl) (by first | trivial | (simp [h1']; done) | (simp [h1']; omega)) ?_
   refine vops_call (hc := fun _ => c_ref13_Put (sortP l).1[y.1] hp) rfl (by simp only [go_sem, getD_map, h1']; rfl) rfl b_ref13_Put (by simp only [go_sem]; exact WkL.refl _) rfl (fun hg => by simp only [go_sem]; try (intros; first | assumption | trivial | simp_all)) ?_
   simp only [go_sem]
   refine vops_go tabOk [] (by simp only [go_sem, getD_map, h1']; rfl) (by first | trivial | (simp [h1']; done) | (simp [h1']; omega)) ?_
   refine vops_done [0, 5, 6, 7] ?_
   simp only [go_sem, thenQ, blockQ, jumpQ, stayQ]
   refine vwp_region ?_
   refine vops_go tabOk [] (by simp only [go_sem]; rfl) (by first | trivial | (simp; done) | (simp [maxB]; omega)) ?_
   refine oC (fun _ => c_ref17_text (putPatch (sortP l).1[y.1]).1 (by omega)) b_ref17_text ?_
   simp only [go_sem]
   refine vops_go tabOk [] (by simp only [go_sem]; rfl) (by first | trivial | (simp; done) | (simp [maxB]; omega)) ?_
   refine vops_done [0, 5, 6] ?_
   simp only [go_sem, thenQ, blockQ, jumpQ, stayQ]
   try simp only [thenQ, blockQ, jumpQ, stayQ]
   refine vwp_reg1 tabOk [] [0, 5, 6] (by simp only [go_sem]; rfl) (by first | trivial | (simp; done) | (simp [in64]; omega)) ?_
   try simp only [thenQ, blockQ, jumpQ, stayQ]
   exact ⟨(y.1 + 1, y.2 ++ txt (putPatch (sortP l).1[y.1]).1), ⟨by simp only []; omega, by simp only []; rw [hs, bunGo_drop _ _ _ h1' hle], by simp only [List.length_append]; omega⟩, by simp only []; omega, (wC (wC (wC (Env.wk_nil _)))), (by first | rfl | trivial)⟩
  ·
   refine vwp_exit ?_
   simp only [thenQ, blockQ, jumpQ, stayQ, if_true, reduceIte, Nat.reduceEqDiff]
   refine oR [2, 3] ?_
   refine vwp_ret ?_
   simp only [thenQ, blockQ, jumpQ, stayQ, RetQ, go_sem]
   refine ⟨by simp, Wk.eq ?_⟩
   have he := sortP_err (l := l)
   rcases he with ⟨_, e1⟩ | ⟨e1, _⟩
   ·have hx : bunGo y.2 ((sortP l).1.drop y.1) = y.2 := by
     by_cases hc : y.2.length ≤ 32768
     ·rw [show y.1 = (sortP l).1.length by simp at h1; omega, List.drop_length, bunGo]
     ·exact bunGo_long hc
    rw [bunR, e1]; simp only []; rw [hs, hx]
   ·simp [e1] at h0
theorem b_ref17_Right : bodied Go.Proofs.Tryz.prog 79 = true := by rw [bodied, Tryz.func79]; rfl
set_option maxHeartbeats 4000000 in
theorem c_ref17_Right (x : Msg) : VPure Go.Proofs.Tryz.prog G 79 [.agg (cMsg x)] (.bool (rightM x)) := by
 refine vpure_know fun hk => ?_
 simp only [factsL, facts, cMsg, maxB, List.length_map] at hk
 refine vpure_of (ts := [2]) Tryz.func79 rfl (by simp [Tryz.ntmps79]) rfl rfl ?_
 rw [Tryz.ntmps79]
 refine oR [1] ?_
 refine vwp_seq ?_
 refine vwp_seq (vwp_region ?_)
 refine oG [] ?_
 refine oC (fun _ => c_ref17_labels x.names) b_ref17_labels ?_
 simp only [go_sem]
 refine oG [] ?_
 refine oC (fun _ => c_ref17_labels x.have_) b_ref17_labels ?_
 simp only [go_sem]
 refine oG [] ?_
 refine vops_done [1, 24] ?_
 simp only [go_sem, thenQ, blockQ, jumpQ, stayQ]
 refine oB (fun h0 => ?_) fun h0 => ?_
 ·
  refine oR [2] ?_
  refine vwp_ret ?_
  simp only [thenQ, blockQ, jumpQ, stayQ, RetQ, go_sem]
  refine ⟨by simp, Wk.eq ?_⟩
  rw [rightM, show rmA x = true from h0]; rfl
 ·
  refine vwp_skip ?_
  try simp only [thenQ, blockQ, jumpQ, stayQ]
  refine vwp_seq ?_
  refine oR [1, 48] ?_
  refine oB (fun h1 => ?_) fun h1 => ?_
  ·
   refine oR [2] ?_
   refine vwp_ret ?_
   simp only [thenQ, blockQ, jumpQ, stayQ, RetQ, go_sem]
   refine ⟨by simp, Wk.eq ?_⟩
   rw [rightM, show rmB x = true from h1]; simp
  ·
   refine vwp_skip ?_
   try simp only [thenQ, blockQ, jumpQ, stayQ]
   refine vwp_seq (vwp_region ?_)
   refine oG [] ?_
   refine oC (fun _ => c_ref14_Sorted x.patches) b_ref14_Sorted ?_
   simp only [go_sem]
   refine oG [] ?_
   refine vops_done [1, 4] ?_
   simp only [go_sem, thenQ, blockQ, jumpQ, stayQ]
   refine oR [2] ?_
   refine vwp_ret ?_
   simp only [thenQ, blockQ, jumpQ, stayQ, RetQ, go_sem]
   refine ⟨by simp, Wk.eq ?_⟩
   rw [rightM, show rmA x = false from h0, show rmB x = false from h1]; rfl
theorem b_ref17_Put : bodied Go.Proofs.Tryz.prog 44 = true := by rw [bodied, Tryz.func44]; rfl
set_option maxHeartbeats 4000000 in
theorem c_ref17_Put (x : Msg) (hn : (lst x.names).length ≤ 1000000000) (hh : (lst x.have_).length ≤ 1000000000) (h : ∀ p ∈ x.patches, (patchEnc p).length ≤ 1000000000) : VPure Go.Proofs.Tryz.prog G 44 [.agg (cMsg x)] (.tuple [.list 1 ((putMsgR x).1.map encB), .int .i64 (putMsgR x).2]) := by
 have hB := bunR_le x.patches h
 refine vpure_of (ts := [2, 3]) Tryz.func44 rfl (by simp [Tryz.ntmps44]) rfl rfl ?_
 rw [Tryz.ntmps44]
 refine oR [1] ?_
 refine vwp_seq ?_
 refine vwp_seq (vwp_region ?_)
 refine oG [] ?_
 refine oC (fun _ => c_ref17_Right x) b_ref17_Right ?_
 simp only [go_sem]
 refine oG [] ?_
 refine vops_done [1, 8] ?_
 simp only [go_sem, thenQ, blockQ, jumpQ, stayQ]
 refine oB (fun h0 => ?_) fun h0 => ?_
 ·
  refine oR [2, 3] ?_
  refine vwp_ret ?_
  simp only [thenQ, blockQ, jumpQ, stayQ, RetQ, go_sem]
  refine ⟨by simp, ?_⟩
  rw [show putMsgR x = ([], 1) from by rw [putMsgR, if_neg (by simpa using h0)]]
  exact Wk.tuple ⟨Wk.nils _, Wk.refl _, trivial⟩
 ·
  have hb := rightM_bounds (by simpa using h0)
  have hk1 := num_len x.kind hb.1
  have hk2 := num_len x.err hb.2
  rw [num, List.length_append] at hk1 hk2
  simp only [List.length_cons, List.length_nil] at hk1 hk2
  refine vwp_skip ?_
  try simp only [thenQ, blockQ, jumpQ, stayQ]
  refine vwp_seq (vwp_region ?_)
  refine oG [] ?_
  refine oC (fun _ => c_ref17_bundle x.patches h) b_ref17_bundle ?_
  simp only [go_sem]
  refine oG [] ?_
  refine vops_done [1, 4] ?_
  simp only [go_sem, thenQ, blockQ, jumpQ, stayQ]
  refine vwp_seq (vwp_drawD mixed (by kernel_rfl) (eF := ?_) ?_ [4] rfl ?_)
  rotate_left
  ·
   refine dall_go tabOk (by simp only [go_sem]; rfl) (by first | trivial | (simp; done) | (simp [maxB]; omega)) ?_
   refine dall_call (hc := fun _ => c_Itoa x.kind hb.1) rfl (by simp only [go_sem]; rfl) b_strconv_Itoa (by simp only [go_sem]; exact WkL.refl _) rfl (fun hg => by simp only [go_sem]; try (intros; first | assumption | trivial | simp_all)) ?_
   simp only [go_sem]
   refine dall_go tabOk (by simp only [go_sem]; rfl) (by first | trivial | (simp; done) | (simp [maxB]; omega)) ?_
   refine dall_call (hc := fun _ => c_ref17_list x.names (by omega)) rfl (by simp only [go_sem]; rfl) b_ref17_list (by simp only [go_sem]; exact WkL.refl _) rfl (fun hg => by simp only [go_sem]; try (intros; first | assumption | trivial | simp_all)) ?_
   simp only [go_sem]
   refine dall_go tabOk (by simp only [go_sem]; rfl) (by first | trivial | (simp; done) | (simp [maxB]; omega)) ?_
   refine dall_call (hc := fun _ => c_ref17_list x.have_ (by omega)) rfl (by simp only [go_sem]; rfl) b_ref17_list (by simp only [go_sem]; exact WkL.refl _) rfl (fun hg => by simp only [go_sem]; try (intros; first | assumption | trivial | simp_all)) ?_
   simp only [go_sem]
   refine dall_go tabOk (by simp only [go_sem]; rfl) (by first | trivial | (simp; done) | (simp [maxB]; omega)) ?_
   refine dall_call (hc := fun _ => c_Itoa x.err hb.2) rfl (by simp only [go_sem]; rfl) b_strconv_Itoa (by simp only [go_sem]; exact WkL.refl _) rfl (fun hg => by simp only [go_sem]; try (intros; first | assumption | trivial | simp_all)) ?_
   simp only [go_sem]
   refine dall_go tabOk (by simp only [go_sem]; rfl) (by first | trivial | (simp; done) | (simp [maxB]; omega)) ?_
   exact dall_nil
  simp only [go_sem, thenQ, blockQ, jumpQ, stayQ]
  refine vwp_seq ?_
  refine oR [4, 36] ?_
  refine oB (fun h1 => ?_) fun h1 => ?_
  ·
   refine oR [2, 3] ?_
   refine vwp_ret ?_
   simp only [thenQ, blockQ, jumpQ, stayQ, RetQ, go_sem]
   refine ⟨by simp, ?_⟩
   have he : (Lib.itoa x.kind ++ [58] ++ lst x.names ++ lst x.have_ ++ Lib.itoa x.err ++ [58] ++ (bunR x.patches).1) = msgR x := by simp [msgR, num]
   rw [he] at h1
   rw [show putMsgR x = ([], 2) from by rw [putMsgR, if_pos (by simpa using h0), if_pos (by simp at h1; omega)]]
   exact Wk.tuple ⟨Wk.nils _, Wk.refl _, trivial⟩
  ·
   refine vwp_skip ?_
   try simp only [thenQ, blockQ, jumpQ, stayQ]
   refine oR [2, 3] ?_
   refine vwp_ret ?_
   simp only [thenQ, blockQ, jumpQ, stayQ, RetQ, go_sem]
   refine ⟨by simp, Wk.eq ?_⟩
   have he : (Lib.itoa x.kind ++ [58] ++ lst x.names ++ lst x.have_ ++ Lib.itoa x.err ++ [58] ++ (bunR x.patches).1) = msgR x := by simp [msgR, num]
   rw [he] at h1 ⊢
   rw [show putMsgR x = (msgR x, 0) from by rw [putMsgR, if_pos (by simpa using h0), if_neg (by simp at h1; omega)]]
end Go.Proofs.YtnobnefabagbhaaGreatDoor.Q
end

section
/- The number that AppendUint lays behind a slice of the call's own: the kit's own walk of the library's text, turned so that it says that nothing else is touched. -/
namespace Go.Q
section
variable {P : Program} {w : World}
theorem run_app_q {t ty e : TypeId} {i : TypeInfo} {z : Value} {k by_ : Nat} (hd : P.underlying t = some (.slice e)) (hi : P.info? e = some i) (hzz : i.zero = some z) (hz : i.size = k) (hby : i.bytes = by_) (hzs : z.cells.size = k) (hk : 0 < k)
  {v : Value} {n : Nat} {xs : List Value} (hown : w.ownsRow 0 e k v n xs) {m c : Nat} {ad : Addr} {news : List Value} (hl : news.length = m * k) (h1 : ∀ u ∈ news, u.oneCell' = true)
  (hc : ∀ j u, news[j]? = some u → w.cell? (ad.add j) = some u) (h63 : n + m ≤ maxLen) (hbb : (n + m) * by_ ≤ 140737488355328) :
  ∃ v' w', (Builtin.append_ #[t, t] ty #[v, .slice (some ad) m c]).run P w = .ok v' w' ∧ w'.ownsRow 0 e k v' (n + m) (xs ++ news) ∧ w.grownBy w' v.ownBlock ∧ (v'.ownBlock = v.ownBlock ∨ ∀ b, v'.ownBlock = some b → w.heap.size ≤ b) := by
 have h64 : n + m ≤ 9223372036854775807 := by simp only [maxLen] at h63; omega
 by_cases hnil : v = .slice none 0 0 ∧ n = 0
 ·obtain ⟨rfl, rfl⟩ := hnil
  have hx0 : xs = [] := List.eq_nil_of_length_eq_zero (by simpa using hown.1)
  subst hx0
  obtain ⟨v', w', h1', h2', h3', _⟩ := run_append_own (P := P) w w.heap.size t ty e i z k by_ hd hi hzz hz hby hzs hk _ 0 [] (World.ownsRow_nil w w.heap.size e k) ad m c news hl hc h1 h63 hbb (Nat.le_refl _)
  refine ⟨v', w', h1', ⟨h2'.1, ?_⟩, h3', .inr fun b hb => (h2'.lt b hb).1⟩
  rcases h2'.2 with h | ⟨gb, cap, cur, q1, q2, q3⟩
  ·exact .inl h
  ·exact .inr ⟨gb, cap, cur, q1, Nat.zero_le _, q3⟩
 ·obtain ⟨v', w', h1', h2', h3', _⟩ := run_append_own (P := P) w 0 t ty e i z k by_ hd hi hzz hz hby hzs hk v n xs hown ad m c news hl hc h1 h63 hbb (Nat.zero_le _)
  refine ⟨v', w', h1', h2', h3', ?_⟩
  rcases hown.2 with h | ⟨gb, cap, cur, rfl, _, hgb, hnc, _⟩
  ·exact absurd h hnil
  ·by_cases hroom : n + m ≤ cap
   ·obtain ⟨w2, e1, _⟩ := run_append_fits (P := P) w 0 t ty e i k hd hi hz gb n cap xs hown ad m c news hl hc h1 hroom
    rw [h1'] at e1
    cases e1
    exact .inl rfl
   ·have hh : ∀ j u, xs[j]? = some u → w.cell? ((⟨gb, 0, none⟩ : Addr).add j) = some u := hown.cells (g := gb) rfl
    have e1 := run_append_grow (P := P) w t ty e i z hd hi hzz ⟨gb, 0, none⟩ n cap xs (by rw [hown.1, hz]) hh ad m c news (by rw [hl, hz]) hc (by omega) (by omega) (growslice_fits (by omega) (by rw [hby]; exact hbb))
    rw [h1'] at e1
    cases e1
    right
    intro b hb
    simp only [Value.ownBlock, Option.some.injEq] at hb
    omega
theorem run_appstr_q {t u ty e : TypeId} {i : TypeInfo} (hd : P.underlying t = some (.slice e)) (hu : P.underlying u = some .string) (hi : P.info? e = some i) (hz3 : i.zero = some (.int .u8 0)) (hz : i.size = 1) (hb2 : i.bytes = 1)
  {v : Value} {n : Nat} {xs : List Value} (hown : w.ownsRow 0 e 1 v n xs) (s : List UInt8) (hB : n + s.length ≤ 137438953472) :
  ∃ v' w', (Builtin.append_ #[t, u] ty #[v, .string ⟨s.toArray⟩]).run P w = .ok v' w' ∧ w'.ownsRow 0 e 1 v' (n + s.length) (xs ++ Lib.byteCells s) ∧ w.grownBy w' v.ownBlock ∧ (v'.ownBlock = v.ownBlock ∨ ∀ b, v'.ownBlock = some b → w.heap.size ≤ b) := by
 have hsc : Lib.strCells ⟨s.toArray⟩ = Lib.byteCells s := by simp [Lib.strCells, Lib.byteCells]
 rw [← hsc]
 by_cases hnil : v = .slice none 0 0 ∧ n = 0
 ·obtain ⟨rfl, rfl⟩ := hnil
  have hx0 : xs = [] := List.eq_nil_of_length_eq_zero (by simpa using hown.1)
  subst hx0
  obtain ⟨v', w', h1', h2', h3', _⟩ := Lib.run_append_own_string (P := P) w w.heap.size t u ty e i hd hu hi hz3 hz hb2 _ 0 [] (World.ownsRow_nil w w.heap.size e 1) ⟨s.toArray⟩ (by rw [size_mk]; unfold maxLen; omega) (by rw [size_mk]; omega) (Nat.le_refl _)
  rw [size_mk] at h2'
  refine ⟨v', w', h1', ⟨h2'.1, ?_⟩, h3', .inr fun b hb => (h2'.lt b hb).1⟩
  rcases h2'.2 with h | ⟨gb, cap, cur, q1, q2, q3⟩
  ·exact .inl h
  ·exact .inr ⟨gb, cap, cur, q1, Nat.zero_le _, q3⟩
 ·obtain ⟨v', w', h1', h2', h3', _⟩ := Lib.run_append_own_string (P := P) w 0 t u ty e i hd hu hi hz3 hz hb2 v n xs hown ⟨s.toArray⟩ (by rw [size_mk]; unfold maxLen; omega) (by rw [size_mk]; omega) (Nat.zero_le _)
  rw [size_mk] at h2'
  refine ⟨v', w', h1', h2', h3', ?_⟩
  rcases hown.2 with h | ⟨gb, cap, cur, rfl, _, hgb, hnc, hcm, hcs, _⟩
  ·exact absurd h hnil
  ·by_cases hroom : n + s.length ≤ cap
   ·have e1 := Lib.run_append_room_string (P := P) w t u ty e i hd hu hi hz gb n cap cur hgb ⟨s.toArray⟩ (by rw [size_mk]; exact hroom) (by rw [size_mk]; omega)
    rw [h1'] at e1
    cases e1
    exact .inl rfl
   ·have hh : ∀ j u, xs[j]? = some u → w.cell? ((⟨gb, 0, none⟩ : Addr).add j) = some u := hown.cells (g := gb) rfl
    have e1 := Lib.run_append_grow_string (P := P) w t u ty e i _ hd hu hi hz3 ⟨gb, 0, none⟩ n cap xs (by rw [hown.1, hz]) hh ⟨s.toArray⟩ (by rw [size_mk]; omega) (by rw [size_mk]; omega) (growslice_fits (by rw [size_mk]; omega) (by rw [size_mk, hb2]; omega))
    rw [h1'] at e1
    cases e1
    right
    intro b hb
    simp only [Value.ownBlock, Option.some.injEq] at hb
    omega
theorem wpList_app_q {ops : Array Oper} {rest : List Oper} {o : Oper} {a : Act} {Q : Exit → Act → World → Prop} (hgd : o.guard = none) (s x : Operand) (t : TypeId)
  (ho : o.op = .call { callee := .builtin .append, args := #[s, x], argTypes := #[t, t] }) {e : TypeId} {i : TypeInfo} {z : Value} {k by_ : Nat} (hd : P.underlying t = some (.slice e)) (hi : P.info? e = some i) (hzz : i.zero = some z) (hz : i.size = k) (hby : i.bytes = by_) (hzs : z.cells.size = k) (hk : 0 < k)
  (v : Value) (n : Nat) (xs : List Value) (hs : a.eval s = v) (hown : w.ownsRow 0 e k v n xs) (ad : Addr) (m c : Nat) (news : List Value) (hx : a.eval x = .slice (some ad) m c) (hl : news.length = m * k) (hc : ∀ j u, news[j]? = some u → w.cell? (ad.add j) = some u) (h1 : ∀ u ∈ news, u.oneCell' = true)
  (h63 : n + m ≤ maxLen) (hbb : (n + m) * by_ ≤ 140737488355328)
  (h : ∀ v' w', w'.ownsRow 0 e k v' (n + m) (xs ++ news) → w.grownBy w' v.ownBlock → (v'.ownBlock = v.ownBlock ∨ ∀ b, v'.ownBlock = some b → w.heap.size ≤ b) → wpList P ops Q rest (a.put o.dst v') w') : wpList P ops Q (o :: rest) a w := by
 refine wpList_plain hgd fun K hK => ?_
 obtain ⟨v', w', hr, h2, h3, h4⟩ := run_app_q (ty := o.type) hd hi hzz hz hby hzs hk hown (c := c) hl h1 hc h63 hbb
 unfold Oper.wp execOp
 simp only [ho, resolve, invoke, builtin, Sem.run_bind, Sem.run_pure, Result.andThen_ok, List.map_toArray, List.map_cons, List.map_nil, hs, hx, hr]
 exact hK _ _ (h v' w' h2 h3 h4)
theorem wpList_appstr_q {ops : Array Oper} {rest : List Oper} {o : Oper} {a : Act} {Q : Exit → Act → World → Prop} (hgd : o.guard = none) (sl x : Operand) (t u : TypeId)
  (ho : o.op = .call { callee := .builtin .append, args := #[sl, x], argTypes := #[t, u] }) {e : TypeId} {i : TypeInfo} (hd : P.underlying t = some (.slice e)) (hu : P.underlying u = some .string) (hi : P.info? e = some i) (hz3 : i.zero = some (.int .u8 0)) (hz : i.size = 1) (hb2 : i.bytes = 1)
  (v : Value) (n : Nat) (xs : List Value) (hs : a.eval sl = v) (hown : w.ownsRow 0 e 1 v n xs) (s : List UInt8) (hx : a.eval x = .string ⟨s.toArray⟩) (hB : n + s.length ≤ 137438953472)
  (h : ∀ v' w', w'.ownsRow 0 e 1 v' (n + s.length) (xs ++ Lib.byteCells s) → w.grownBy w' v.ownBlock → (v'.ownBlock = v.ownBlock ∨ ∀ b, v'.ownBlock = some b → w.heap.size ≤ b) → wpList P ops Q rest (a.put o.dst v') w') : wpList P ops Q (o :: rest) a w := by
 refine wpList_plain hgd fun K hK => ?_
 obtain ⟨v', w', hr, h2, h3, h4⟩ := run_appstr_q (ty := o.type) hd hu hi hz3 hz hb2 hown s hB
 unfold Oper.wp execOp
 simp only [ho, resolve, invoke, builtin, Sem.run_bind, Sem.run_pure, Result.andThen_ok, List.map_toArray, List.map_cons, List.map_nil, hs, hx, hr]
 exact hK _ _ (h v' w' h2 h3 h4)
end
end Go.Q
namespace Go.Proofs
open Go.Shelf Go.RowKit Go.Sort Go.Lib
variable {P : Program} {ρ : Ren}
set_option maxHeartbeats 6400000 in
set_option maxRecDepth 100000 in
theorem Tryz.appU_small (L : LaysM.n288 P ρ) (n u : Nat) (hu : u < 100) (sv : Value) (xs : List Value) (w : World) (hown : w.ownsRow 0 (ρ.t 5) 1 sv n xs) (hlim : n + 20 ≤ 137438953472) :
  Calls P (ρ.f 288) #[sv, .int .u64 u, .int .i64 10] w fun e w' => ∃ v', e = .returned v' ∧ w'.ownsRow 0 (ρ.t 5) 1 v' (n + (Lib.decDigits u).length) (xs ++ Lib.byteCells (Lib.decDigits u)) ∧ w.grownBy w' sv.ownBlock ∧ (v'.ownBlock = sv.ownBlock ∨ ∀ b, v'.ownBlock = some b → w.heap.size ≤ b) := by
 have mixed := L.mixed
 have t5 := L.t5; have a5 := L.a5; have z5 := L.z5; have v5 := L.v5
 have t37 := L.t37; have u37 := run_underlying L.t37; have a37 := L.a37; have z37 := L.z37; have v37 := L.v37
 have t53 := L.t53; have a53 := L.a53; have z53 := L.z53; have v53 := L.v53
 have t3 := L.t3; have a3 := L.a3; have z3 := L.z3; have v3 := L.v3
 have t4 := L.t4; have a4 := L.a4; have z4 := L.z4; have v4 := L.v4
 have t9 := L.t9; have a9 := L.a9; have z9 := L.z9; have v9 := L.v9
 have t171 := L.t171; have a171 := L.a171; have z171 := L.z171; have v171 := L.v171
 have t0 := L.t0; have a0 := L.a0; have z0 := L.z0; have v0 := L.v0
 have t173 := L.t173; have a173 := L.a173; have z173 := L.z173; have v173 := L.v173
 have e283 : ∀ args w, (callFunc (ρ.f 283) args).run P w = .ok (.enter (ρ.f 283) args) w := enters_of L.f283 (by kernel_rfl) rfl
 obtain ⟨i0, hi, hz0, hz1, hz2⟩ := info_parts L.i5
 have hlen : (Lib.decDigits u).length ≤ 20 := by
  rw [Lib.decDigits_length]
  by_cases h10 : u < 10
  ·rw [Lib.nDigits_small h10]; omega
  ·rw [Lib.nDigits_big h10, Lib.nDigits_small (show u / 10 < 10 by omega)]; omega
 have hsz : (⟨(Lib.decDigits u).toArray⟩ : ByteArray).size = (Lib.decDigits u).length := by simp [ByteArray.size]
 go_enter L.f288, Body.n288_ntmps ρ
 go_wp2_with (first
  | (go_at_fn (ρ.f 283); refine (Any.internal_strconv_small { L with } u hu _).mono ?_; rintro e w' ⟨rfl, rfl⟩)
  | (at_builtin; refine Go.Q.wpList_appstr_q rfl _ _ (ρ.t 37) (ρ.t 9) rfl L.t37 L.t9 hi hz0 hz1 hz2 _ _ _ rfl hown (Lib.decDigits u) rfl (by omega) ?_))
 intro v' w1 hown' hgrow hdis
 go_wp2
 go_ret
 exact ⟨v', rfl, hown', hgrow, hdis⟩
set_option maxHeartbeats 12800000 in
set_option maxRecDepth 100000 in
theorem Tryz.appU_big (L : LaysM.n288 P ρ) (n u : Nat) (hu : 100 ≤ u) (hu64 : u < 18446744073709551616) (sv : Value) (xs : List Value) (w : World) (hown : w.ownsRow 0 (ρ.t 5) 1 sv n xs) (hlim : n + 20 ≤ 137438953472)
  (htab : Lib.TabIs P w "internal/strconv.uint64pow10" .u64 Lib.pow10Tab) :
  Calls P (ρ.f 288) #[sv, .int .u64 u, .int .i64 10] w fun e w' => ∃ v', e = .returned v' ∧ w'.ownsRow 0 (ρ.t 5) 1 v' (n + (Lib.decDigits u).length) (xs ++ Lib.byteCells (Lib.decDigits u)) ∧ w.grownBy w' sv.ownBlock ∧ (v'.ownBlock = sv.ownBlock ∨ ∀ b, v'.ownBlock = some b → w.heap.size ≤ b) := by
 have mixed := L.mixed
 have t5 := L.t5; have a5 := L.a5; have z5 := L.z5; have v5 := L.v5
 have t37 := L.t37; have u37 := run_underlying L.t37; have a37 := L.a37; have z37 := L.z37; have v37 := L.v37
 have t53 := L.t53; have a53 := L.a53; have z53 := L.z53; have v53 := L.v53
 have t3 := L.t3; have a3 := L.a3; have z3 := L.z3; have v3 := L.v3
 have t4 := L.t4; have a4 := L.a4; have z4 := L.z4; have v4 := L.v4
 have t9 := L.t9; have a9 := L.a9; have z9 := L.z9; have v9 := L.v9
 have t171 := L.t171; have a171 := L.a171; have z171 := L.z171; have v171 := L.v171
 have t0 := L.t0; have a0 := L.a0; have z0 := L.z0; have v0 := L.v0
 have t173 := L.t173; have a173 := L.a173; have z173 := L.z173; have v173 := L.v173
 have e284 : ∀ args w, (callFunc (ρ.f 284) args).run P w = .ok (.enter (ρ.f 284) args) w := enters_of L.f284 (by kernel_rfl) rfl
 have e285 : ∀ args w, (callFunc (ρ.f 285) args).run P w = .ok (.enter (ρ.f 285) args) w := enters_of L.f285 (by kernel_rfl) rfl
 obtain ⟨i0, hi, hz0, hz1, hz2⟩ := info_parts L.i5
 have hu1 : 1 ≤ u := by omega
 have hnd20 : Lib.nDigits u ≤ 20 := by have := Lib.numDigits_eq u hu1 hu64; split at this <;> omega
 have hal : P.arrayLen (ρ.t 171) = 24 := by simp [Program.arrayLen, L.t171]
 have hsl : ∀ W, (Instr.sliceAt (ρ.t 171) (.pointer (some ⟨w.heap.size, 0, none⟩)) none (some (.int .i64 (Lib.nDigits u : Int))) none).run P W = .ok (.slice (some ⟨w.heap.size, 0, none⟩) (Lib.nDigits u) 24) W := fun W => by
  rw [run_sliceAt_array_h W (ρ.t 171) ⟨w.heap.size, 0, none⟩ (by simp [Program.arrayLen, Program.elem, L.t171]) .i64 (Lib.nDigits u : Int) (by omega) (by rw [hal]; omega)]
  go_simp
 have hH0 := Lib.holds_zero0 w (ρ.t 171) (Lib.nDigits u) (by omega)
 have hfmt := Any.internal_strconv_formatBase10 { L with } w.heap.size 0 24 u (Array.replicate (Lib.nDigits u) 0) (w.alloc (.cells Lib.zeros24 (ρ.t 171))) hH0 (by rw [Array.size_replicate]; exact Lib.lt_pow_nDigits u) hu64 (by rw [Array.size_replicate]; omega)
 rw [Array.size_replicate] at hfmt
 have HH0 := Lib.hid hH0
 have iu : (100 : Int) ≤ (u : Int) := by omega
 clear hH0 hal
 go_enter L.f288, Body.n288_ntmps ρ
 go_wp2_with (first
  | (go_at_fn (ρ.f 284); refine (Any.internal_strconv_numDigits { L with } u hu1 hu64 _ (Lib.tabIs_alloc htab _)).mono ?_; rintro e w' ⟨rfl, rfl⟩))
 go_at_fn (ρ.f 285)
 refine hfmt.mono ?_
 rintro e w' ⟨rfl, k, v', dk, rfl, hF⟩
 have hcells : ∀ j u', (Lib.byteCells (Lib.decDigits u))[j]? = some u' → ((putRow (fun (b : UInt8) => Value.int .u8 (b.toNat : Int)) (w.alloc (.cells Lib.zeros24 (ρ.t 171))) w.heap.size 0 dk).drewN k).cell? ((⟨w.heap.size, 0, none⟩ : Addr).add j) = some u' := by
  intro j u' hj
  have hjl : j < (Lib.decDigits u).length := by
   have h5 := (List.getElem?_eq_some_iff.1 hj).1
   rwa [Lib.byteCells_length] at h5
  have e5 : (Lib.byteCells (Lib.decDigits u))[j]? = some (Value.int .u8 ((Lib.decDigits u)[j].toNat : Int)) := by simp [Lib.byteCells, hjl]
  rw [e5] at hj
  cases hj
  rw [Lib.row_is_numeral hF j hjl, Lib.add_plain, World.cell?_drewN]
  exact cell?_putRow (fun (b : UInt8) => Value.int .u8 (b.toNat : Int)) _ w.heap.size 0 _ dk HH0.out (by rw [hF.size, Array.size_replicate]) j (by rw [hF.size]; rw [Lib.decDigits_length] at hjl; exact hjl)
 obtain ⟨os, eo⟩ := Lib.fin_at w (.cells Lib.zeros24 (ρ.t 171)) dk k 0
 have hown2 : ((putRow (fun (b : UInt8) => Value.int .u8 (b.toNat : Int)) (w.alloc (.cells Lib.zeros24 (ρ.t 171))) w.heap.size 0 dk).drewN k).ownsRow 0 (ρ.t 5) 1 sv n xs := by rw [eo]; exact Lib.ownsRow_grow hown k os
 have hnx2 : Below w.heap.size w ((putRow (fun (b : UInt8) => Value.int .u8 (b.toNat : Int)) (w.alloc (.cells Lib.zeros24 (ρ.t 171))) w.heap.size 0 dk).drewN k) := by rw [eo]; exact Lib.below_grow w.heap.size w (Nat.le_refl _) k os
 have hsz2 : w.heap.size ≤ ((putRow (fun (b : UInt8) => Value.int .u8 (b.toNat : Int)) (w.alloc (.cells Lib.zeros24 (ρ.t 171))) w.heap.size 0 dk).drewN k).heap.size := by rw [eo]; exact Lib.size_grow w k os
 generalize (putRow (fun (b : UInt8) => Value.int .u8 (b.toNat : Int)) (w.alloc (.cells Lib.zeros24 (ρ.t 171))) w.heap.size 0 dk).drewN k = W2 at hcells hown2 hnx2 hsz2 ⊢
 clear eo HH0 hfmt
 go_wp2_with (at_builtin; refine Go.Q.wpList_app_q rfl _ _ (ρ.t 37) rfl L.t37 hi hz0 hz1 hz2 rfl (by decide) _ _ _ rfl hown2 ⟨w.heap.size, 0, none⟩ (Lib.nDigits u) 24 (Lib.byteCells (Lib.decDigits u)) rfl ?c0 hcells ?c2 ?c3 ?c4 ?_)
 case c0 => rw [Lib.byteCells_length, Lib.decDigits_length, Nat.mul_one]
 case c2 => intro u' hu'; simp only [Lib.byteCells, List.mem_map] at hu'; obtain ⟨b, _, rfl⟩ := hu'; rfl
 case c3 => unfold maxLen; omega
 case c4 => omega
 intro v2 w3 hown' hgrow hdis
 go_wp2
 go_ret
 refine ⟨v2, rfl, by rw [Lib.decDigits_length]; exact hown', ⟨hgrow.os.trans hnx2.os, hgrow.tape.trans hnx2.tape, hgrow.output.trans hnx2.output, Nat.le_trans hnx2.size hgrow.size, fun k hk hne => (hgrow.block k (by omega) hne).trans (hnx2.block k hk)⟩, ?_⟩
 rcases hdis with h | h
 ·exact .inl h
 ·exact .inr fun b hb => Nat.le_trans hsz2 (h b hb)
end Go.Proofs
end

section
/- Walks of the bytes of numbers, texts and lists, laid behind a slice of the call's own, in the logic 'Q'. -/
namespace Go.Proofs.YtnobnefabagbhaaGreatDoor.Q
open Go Go.Q
theorem relLL_bytes {F : Nat → Prop} {w : World} : ∀ (s : List UInt8), RelLL F w 1 (s.map encB) (Lib.byteCells s)
 | [] => by simp [RelLL, Lib.byteCells]
 | b :: s => by
  have := relLL_bytes (F := F) (w := w) s
  simp only [List.map_cons, RelLL, Lib.byteCells] at this ⊢
  exact ⟨[.int .u8 (b.toNat : Int)], _, rfl, rfl, by simp only [encB, RelL, Rel]; exact ⟨_, _, rfl, rfl, rfl⟩, by simp [Value.oneCell'], this⟩
theorem b_internal_strconv_AppendUint : bodied Go.Proofs.Tryz.prog 178 = true := by rw [bodied, Tryz.func178]; rfl
theorem c_AppendUint0 (u : Nat) (hu : u < 18446744073709551616) (s : Str) (hs : s.length + 20 ≤ 137438953472) : VCalls Go.Proofs.Tryz.prog G 178 [.arr 0 (s.map encB).length, .int .u64 (u : Int), .int .i64 10] [.arr 5 1 (s.map encB)] [0]
  (fun r H => r = .arr 0 ((s.map encB).length + ((Lib.decDigits u).map encB).length) ∧ H = [.arr 5 1 (s.map encB ++ (Lib.decDigits u).map encB)]) := by
 have hl : (Lib.decDigits u).length ≤ 20 := by rw [Lib.decDigits_length]; exact Lib.nDigits_le20 u hu
 refine vcalls_grown rfl (by simp [maxB]; omega) fun F w h us ms hown hr hG hh => ?_
 simp only [RelL, Rel] at hr
 obtain ⟨_, _, rfl, rfl, _, _, rfl, rfl, rfl⟩ := hr
 have hb := glob_here hG
 by_cases h100 : u < 100
 ·refine (Go.Proofs.Tryz.appU_small Tryz.laysM288 (s.map encB).length u h100 h us w hown (by simp; omega)).mono ?_
  rintro e w' ⟨v', rfl, h1, h2, h3⟩
  exact ⟨v', _, rfl, relLL_bytes _, by simpa using (show w'.ownsRow 0 5 1 v' _ _ from h1), h2, h3⟩
 ·refine (Go.Proofs.Tryz.appU_big Tryz.laysM288 (s.map encB).length u (by omega) hu h us w hown (by simp; omega) hb.pow10).mono ?_
  rintro e w' ⟨v', rfl, h1, h2, h3⟩
  exact ⟨v', _, rfl, relLL_bytes _, by simpa using (show w'.ownsRow 0 5 1 v' _ _ from h1), h2, h3⟩
theorem c_AppendUint (u : Nat) (hu : u < 18446744073709551616) (s : Str) (hs : s.length + 20 ≤ 137438953472) : VCalls Go.Proofs.Tryz.prog G 178 [.arr 0 s.length, .int .u64 (u : Int), .int .i64 10] [.arr 5 1 (s.map encB)] [0]
  (fun r H => r = .arr 0 (s ++ Lib.itoa u).length ∧ H = [.arr 5 1 ((s ++ Lib.itoa u).map encB)]) := by
 have h := c_AppendUint0 u hu s hs
 rw [List.length_map] at h
 refine h.mono fun r H h2 => ?_
 rw [Lib.itoa_nonneg]
 simpa using h2
theorem b_internal_strconv_AppendInt : bodied Go.Proofs.Tryz.prog 147 = true := by rw [bodied, Tryz.func147]; rfl
theorem c_internal_strconv_AppendInt (s : Str) (n : Nat) (hn : n ≤ 9223372036854775807) (hs : s.length ≤ 137000000000) : VCalls Go.Proofs.Tryz.prog G 147 [.arr 0 s.length, .int .i64 (n : Int), .int .i64 10] [.arr 5 1 (s.map encB)] [0] (fun r H => r = .arr 0 (s ++ Lib.itoa n).length ∧ H = [.arr 5 1 ((s ++ Lib.itoa n).map encB)]) := by
 have hw : IntKind.u64.wrap (n : Int) = n := by simp [IntKind.wrap, IntKind.bits, IntKind.signed]; omega
 refine vcalls_of2 tabOk (rs := _) 1 Tryz.func147 rfl (by simp [Tryz.ntmps147]) rfl (by first | (simp; done) | exact Nat.le_refl _) ?_
 rw [Tryz.ntmps147]
 refine vwp_reg tabOk [] [0, 1, 2] (by simp only [go_sem, hw]; rfl) (by first | trivial | (simp; done) | (simp [in64]; omega)) ?_
 refine vwp_reg tabOk [] [0, 1, 2, 7] (by simp only [go_sem, hw]; rfl) (by first | trivial | (simp; done) | (simp [in64]; omega)) ?_
 refine vwp_seq ?_
 refine vwp_reg tabOk [] [0, 2, 7, 11] (by simp only [go_sem, hw]; rfl) (by first | trivial | (simp; done) | (simp [in64]; omega)) ?_
 refine oB (fun h0 => ?_) fun h0 => ?_
 ·
  exact absurd h0 (by simp)
 ·
  refine vwp_skip ?_
  try simp only [thenQ, blockQ, jumpQ, stayQ]
  refine vwp_seq (vwp_region ?_)
  refine vops_go tabOk [] (by simp only [go_sem, hw]; rfl) (by first | trivial | (simp; done) | (simp [in64]; omega)) ?_
  refine vops_callH (hc := c_AppendUint n (by omega) s (by omega)) rfl rfl rfl b_internal_strconv_AppendUint [0] [0] [0] rfl rfl rfl (by simp only [go_sem]; exact WkL.refl _) (by simp only [go_sem]) ?_
  rintro r0 H0 ⟨rfl, rfl⟩
  simp only [go_sem, hw]
  refine vops_go tabOk [] (by simp only [go_sem, hw]; rfl) (by first | trivial | (simp; done) | (simp [in64]; omega)) ?_
  refine vops_done [6] ?_
  simp only [go_sem, thenQ, blockQ, jumpQ, stayQ]
  refine vwp_ret ?_
  try simp only [thenQ, blockQ, jumpQ, stayQ, go_sem]
  refine ⟨by simp, _, _, rfl, by first | trivial | simp, ?_⟩
  rfl
theorem b_strconv_AppendInt : bodied Go.Proofs.Tryz.prog 105 = true := by rw [bodied, Tryz.func105]; rfl
theorem c_strconv_AppendInt (s : Str) (n : Nat) (hn : n ≤ 9223372036854775807) (hs : s.length ≤ 137000000000) : VCalls Go.Proofs.Tryz.prog G 105 [.arr 0 s.length, .int .i64 (n : Int), .int .i64 10] [.arr 5 1 (s.map encB)] [0] (fun r H => r = .arr 0 (s ++ Lib.itoa n).length ∧ H = [.arr 5 1 ((s ++ Lib.itoa n).map encB)]) := by
 refine vcalls_of2 tabOk (rs := _) 1 Tryz.func105 rfl (by simp [Tryz.ntmps105]) rfl (by first | (simp; done) | exact Nat.le_refl _) ?_
 rw [Tryz.ntmps105]
 refine oR [0, 1, 2] ?_
 refine vwp_seq (vwp_region ?_)
 refine oG [] ?_
 refine vops_callH (hc := c_internal_strconv_AppendInt s n hn hs) rfl rfl rfl b_internal_strconv_AppendInt [0] [0] [0] rfl rfl rfl (by simp only [go_sem]; exact WkL.refl _) (by simp only [go_sem]) ?_
 rintro r0 H0 ⟨rfl, rfl⟩
 simp only [go_sem]
 refine oG [] ?_
 refine vops_done [6] ?_
 simp only [go_sem, thenQ, blockQ, jumpQ, stayQ]
 refine vwp_ret ?_
 try simp only [thenQ, blockQ, jumpQ, stayQ, go_sem]
 refine ⟨by simp, _, _, rfl, by first | trivial | simp, ?_⟩
 rfl
theorem b_codec_number : bodied Go.Proofs.Tryz.prog 74 = true := by rw [bodied, Tryz.func74]; rfl
theorem c_codec_number (s : Str) (n : Nat) (hn : n ≤ 9223372036854775807) (hs : s.length ≤ 137000000000) : VCalls Go.Proofs.Tryz.prog G 74 [.arr 0 s.length, .int .i64 (n : Int)] [.arr 5 1 (s.map encB)] [0] (fun r H => r = .arr 0 (s ++ num n).length ∧ H = [.arr 5 1 ((s ++ num n).map encB)]) := by
 have hl := num_nat n hn
 rw [num, List.length_append] at hl
 simp only [List.length_cons, List.length_nil] at hl
 refine vcalls_of2 tabOk (rs := _) 1 Tryz.func74 rfl (by simp [Tryz.ntmps74]) rfl (by first | (simp; done) | exact Nat.le_refl _) ?_
 rw [Tryz.ntmps74]
 refine oR [0, 1] ?_
 refine vwp_seq (vwp_region ?_)
 refine vops_go tabOk [] (by simp only [go_sem]; rfl) (by first | trivial | (simp; done) | (simp [-List.length_append]; rw [List.length_append]; omega)) ?_
 refine vops_callH (hc := c_strconv_AppendInt s n hn hs) rfl rfl rfl b_strconv_AppendInt [0] [0] [0] rfl rfl rfl (by simp only [go_sem]; exact WkL.refl _) (by simp only [go_sem]) ?_
 rintro r0 H0 ⟨rfl, rfl⟩
 simp only [go_sem]
 refine vops_go tabOk [] (by simp only [go_sem]; rfl) (by first | trivial | (simp; done) | (simp [-List.length_append]; rw [List.length_append]; omega)) ?_
 refine vops_done [4] ?_
 simp only [go_sem, thenQ, blockQ, jumpQ, stayQ]
 refine vwp_ret ?_
 try simp only [thenQ, blockQ, jumpQ, stayQ, go_sem]
 refine ⟨by simp, _, _, rfl, by first | trivial | simp, ?_⟩
 refine ⟨?_, by simp [num, encB]⟩
 simp only [go_sem]; rw [num, ← List.append_assoc]; simp; try omega
theorem b_codec_text : bodied Go.Proofs.Tryz.prog 106 = true := by rw [bodied, Tryz.func106]; rfl
theorem c_codec_text (s : Str) (x : Str) (hx : x.length ≤ 1000000000) (hs : s.length ≤ 130000000000) : VCalls Go.Proofs.Tryz.prog G 106 [.arr 0 s.length, .list 1 (x.map encB)] [.arr 5 1 (s.map encB)] [0] (fun r H => r = .arr 0 (s ++ txt x).length ∧ H = [.arr 5 1 ((s ++ txt x).map encB)]) := by
 have hl := num_nat x.length (by omega)
 refine vcalls_of2 tabOk (rs := _) 1 Tryz.func106 rfl (by simp [Tryz.ntmps106]) rfl (by first | (simp; done) | exact Nat.le_refl _) ?_
 rw [Tryz.ntmps106]
 refine oR [0, 1] ?_
 refine vwp_seq (vwp_region ?_)
 refine vops_go tabOk [] (by simp only [go_sem]; rfl) (by first | trivial | (simp; done) | (simp [-List.length_append]; rw [List.length_append]; omega) | (simp [in64]; omega)) ?_
 refine vops_callH (hc := c_codec_number s x.length (by omega) (by omega)) rfl rfl rfl b_codec_number [0] [0] [0] rfl rfl rfl (by simp only [go_sem]; exact ⟨Wk.refl _, Wk.refl _, trivial⟩) (by simp only [go_sem]) ?_
 rintro r0 H0 ⟨rfl, rfl⟩
 simp only [go_sem]
 refine vops_go tabOk [] (by simp only [go_sem]; rfl) (by first | trivial | (simp; done) | (simp [-List.length_append]; rw [List.length_append]; omega) | (simp [in64]; omega)) ?_
 refine vops_done [4] ?_
 simp only [go_sem, thenQ, blockQ, jumpQ, stayQ]
 refine vwp_ret ?_
 try simp only [thenQ, blockQ, jumpQ, stayQ, go_sem]
 refine ⟨by simp, _, _, rfl, by first | trivial | simp, ?_⟩
 refine ⟨?_, by simp [txt]⟩
 simp only [go_sem]; rw [txt, ← List.append_assoc]; simp; try omega
theorem b_codec_list : bodied Go.Proofs.Tryz.prog 75 = true := by rw [bodied, Tryz.func75]; rfl
set_option maxHeartbeats 4000000 in
theorem c_codec_list (s : Str) (l : List Str) (hl : (lst l).length ≤ 1000000000) (hs : s.length ≤ 100000000000) : VCalls Go.Proofs.Tryz.prog G 75 [.arr 0 s.length, .list 1 (l.map cS)] [.arr 5 1 (s.map encB)] [0] (fun r H => r = .arr 0 (s ++ lst l).length ∧ H = [.arr 5 1 ((s ++ lst l).map encB)]) := by
 refine vcalls_know fun hk hK => ?_
 simp only [factsL, facts, maxB, List.length_map] at hk
 have hnl := num_nat l.length (by omega)
 rw [lst, List.length_append] at hl
 refine vcalls_of2 tabOk (rs := _) 1 Tryz.func75 rfl (by simp [Tryz.ntmps75]) rfl (by first | (simp; done) | exact Nat.le_refl _) ?_
 rw [Tryz.ntmps75]
 refine oR [0, 1] ?_
 refine vwp_seq (vwp_region ?_)
 refine oG [] ?_
 refine vops_callH (hc := c_codec_number s l.length (by omega) (by omega)) rfl rfl rfl b_codec_number [0] [0] [0] rfl rfl rfl (by simp only [go_sem]; exact WkL.refl _) (by simp only [go_sem]) ?_
 rintro r0 H0 ⟨rfl, rfl⟩
 simp only [go_sem]
 refine oG [] ?_
 refine vops_done [0, 1] ?_
 simp only [go_sem, thenQ, blockQ, jumpQ, stayQ]
 refine vwp_seq ?_
 refine oR [0, 11, 12, 13] ?_
 refine vwp_block ?_
 refine vwp_loopW (fun i : Nat => [(0, .arr 0 (s ++ num l.length ++ txts (l.take i)).length), (11, .list 1 (l.map cS)), (12, .int .i64 (l.length : Int)), (13, .int .i64 (i : Int))]) (fun i => [.arr 5 1 ((s ++ num l.length ++ txts (l.take i)).map encB)]) (fun i => i ≤ l.length) (fun i => l.length - i) 0 (Nat.zero_le _) (Env.wk_cons (by first | exact Wk.refl _ | exact Wk.nils _ | (refine Wk.eq ?_; simp; done) | (refine Wk.eq ?_; simp [txts]; done) | (refine Wk.eq ?_; congr 1 <;> omega)) (Env.wk_cons (by first | exact Wk.refl _ | exact Wk.nils _ | (refine Wk.eq ?_; simp; done) | (refine Wk.eq ?_; simp [txts]; done) | (refine Wk.eq ?_; congr 1 <;> omega)) (Env.wk_cons (by first | exact Wk.refl _ | exact Wk.nils _ | (refine Wk.eq ?_; simp; done) | (refine Wk.eq ?_; simp [txts]; done) | (refine Wk.eq ?_; congr 1 <;> omega)) (Env.wk_cons (by first | exact Wk.refl _ | exact Wk.nils _ | (refine Wk.eq ?_; simp; done) | (refine Wk.eq ?_; simp [txts]; done) | (refine Wk.eq ?_; congr 1 <;> omega)) (Env.wk_nil _))))) (by simp [txts]) ?_
 rintro i hi
 refine oR [0, 11, 12, 13, 14] ?_
 refine vwp_seq ?_
 refine oB (fun h0 => ?_) fun h0 => ?_
 ·
  have h0' : i < l.length := by simp at h0; omega
  have ht := txts_take l i h0'
  have hle := txts_le l (i + 1)
  rw [ht, List.length_append] at hle
  have hli : l[i].length ≤ (txt l[i]).length := txt_ge _
  refine vwp_skip ?_
  try simp only [thenQ, blockQ, jumpQ, stayQ]
  refine vwp_seq ?_
  refine vwp_block ?_
  refine vwp_reg tabOk [] [0, 6, 11, 12, 13] (by simp only [go_sem]; rfl) (by first | trivial | (simp; done) | (simp [h0']; done) | (simp; omega)) ?_
  refine vwp_region ?_
  refine oG [] ?_
  refine vops_callH (hc := c_codec_text (s ++ num l.length ++ txts (l.take i)) (l.getD i []) (by rw [getD_lt l i [] h0']; omega) (by simp only [List.length_append]; omega)) rfl rfl rfl b_codec_text [0] [0] [0] rfl rfl rfl (by simp only [go_sem]; exact WkL.refl _) (by simp only [go_sem]) ?_
  rintro r1 H1 ⟨rfl, rfl⟩
  simp only [go_sem]
  refine oG [] ?_
  refine vops_done [0, 11, 12, 13] ?_
  simp only [go_sem, thenQ, blockQ, jumpQ, stayQ]
  try simp only [thenQ, blockQ, jumpQ, stayQ]
  refine vwp_reg1 tabOk [] [0, 11, 12, 13] (by simp only [go_sem]; rfl) (by first | trivial | (simp; done) | (simp [in64]; omega)) ?_
  try simp only [thenQ, blockQ, jumpQ, stayQ]
  exact ⟨i + 1, by omega, by omega, Env.wk_cons (Wk.eq (by rw [txts_take l i h0', getD_lt l i [] h0']; simp [Nat.add_assoc])) (Env.wk_cons (Wk.refl _) (Env.wk_cons (Wk.refl _) (Env.wk_cons (Wk.refl _) (Env.wk_nil _)))), by rw [txts_take l i h0', getD_lt l i [] h0']; simp⟩
 ·
  refine vwp_exit ?_
  simp only [thenQ, blockQ, jumpQ, stayQ, if_true, reduceIte, Nat.reduceEqDiff]
  refine oR [4] ?_
  refine vwp_ret ?_
  try simp only [thenQ, blockQ, jumpQ, stayQ, go_sem]
  refine ⟨by simp, _, _, rfl, by first | trivial | simp, ?_⟩
  have : i = l.length := by simp at h0; omega
  subst this; rw [List.take_length]; refine ⟨?_, by simp [lst]⟩
  simp only [go_sem]; simp [lst, Nat.add_assoc]
end Go.Proofs.YtnobnefabagbhaaGreatDoor.Q
end

section
/- Walks of what looks at texts rune by rune, in the logic 'Q'. -/
namespace Go.Proofs.YtnobnefabagbhaaGreatDoor.Q
open Go Go.Q
open Go.RowKit (Below)
theorem b_strings_IndexByte : bodied Go.Proofs.Tryz.prog 121 = true := by rw [bodied, Tryz.func121]; rfl
theorem c_strings_IndexByte (s : Str) (c : UInt8) : VPure Go.Proofs.Tryz.prog G 121 [.str s, .int .u8 (c.toNat : Int)] (.int .i64 (Lib.indexByte s c)) := by
 refine vpure_same fun F w ms hr hG => ⟨.int .i64 (Lib.indexByte s c), by simp only [Rel], ?_⟩
 simp only [RelL, Rel] at hr
 obtain ⟨_, _, rfl, ⟨rfl, _⟩, _, _, rfl, rfl, rfl⟩ := hr
 refine (Tryz.strings_IndexByte ⟨s.toArray⟩ (c.toNat : Int) w).mono ?_
 rintro e w' ⟨rfl, rfl⟩
 refine ⟨?_, Below.refl _ _⟩
 simp
theorem b_unicode_utf8_ValidRune : bodied Go.Proofs.Tryz.prog 122 = true := by rw [bodied, Tryz.func122]; rfl
theorem c_utf8_ValidRune (r : Int) : VPure Go.Proofs.Tryz.prog G 122 [.int .i32 r] (.bool (Lib.validRune r)) := by
 refine vpure_same fun F w ms hr hG => ⟨.bool (Lib.validRune r), by simp only [Rel], ?_⟩
 simp only [RelL, Rel] at hr
 obtain ⟨_, _, rfl, rfl, rfl⟩ := hr
 refine (Tryz.utf8_ValidRune r w).mono ?_
 rintro e w' ⟨rfl, rfl⟩
 exact ⟨rfl, Below.refl _ _⟩
def runeIdx (s : Str) (r : Int) : Int := if 0 ≤ r ∧ r < 128 then Lib.indexByte s r.toNat.toUInt8 else -1
theorem indexByte_none {s : Str} {c : UInt8} (h : ∀ b ∈ s, b ≠ c) : Lib.indexByte s c = -1 := by
 induction s with
 | nil => rfl
 | cons b s ih =>
  have h1 := h b (by simp)
  simp [Lib.indexByte, h1, ih fun b hb => h b (by simp [hb])]
theorem runeAt_low (s : Str) (q : Nat) (hq : q < s.length) (h : (s.getD q 0).toNat < 128) : runeAt s q = ((s.getD q 0).toNat, 1) := by
 have h1 : (⟨s.toArray⟩ : ByteArray).get! (q + 0) = s.getD q 0 := by
  rw [get_at _ q (by simpa [ByteArray.size] using hq), getD_lt s q 0 hq]; rfl
 simp only [runeAt, Utf8.decode, h1, if_pos h]
theorem runeStr_high {r : Int} (hv : Lib.validRune r = true) (h : 128 ≤ r) : ∃ k, (runeStr r).length = k + 1 ∧ k < 4 ∧ 128 ≤ ((runeStr r).getD k 0).toNat := by
 obtain ⟨h1, h2, h3⟩ := encode_facts r (by rw [validRune_eq]; exact hv) h
 have hs : (Utf8.encode r).size = (runeStr r).length := by unfold runeStr; rw [Array.length_toList]; rfl
 refine ⟨(runeStr r).length - 1, by omega, by omega, ?_⟩
 have h4 := h3 (by omega)
 rw [getD_lt _ _ _ (by omega)]
 simp only [hs] at h4
 exact h4
theorem getD_lt128 {s : Str} (hs : ∀ b ∈ s, b.toNat < 128) (k : Nat) : (s.getD k 0).toNat < 128 := by
 by_cases h : k < s.length
 ·rw [getD_lt s k 0 h]; exact hs _ (List.getElem_mem h)
 ·rw [List.getD_eq_getElem?_getD, List.getElem?_eq_none (by omega)]; decide
theorem wrap8 {r : Int} (h : 0 ≤ r ∧ r < 128) : IntKind.u8.wrap r = (r.toNat.toUInt8.toNat : Int) := by
 have h1 : r.toNat.toUInt8.toNat = r.toNat := by simp; omega
 rw [h1]; simp [IntKind.wrap, IntKind.bits, IntKind.signed]; omega
theorem b_strings_IndexRune : bodied Go.Proofs.Tryz.prog 92 = true := by rw [bodied, Tryz.func92]; rfl
set_option maxHeartbeats 4000000 in
theorem c_strings_IndexRune (s : Str) (hs : ∀ b ∈ s, b.toNat < 128) (r : Int) : VPure Go.Proofs.Tryz.prog G 92 [.str s, .int .i32 r] (.int .i64 (runeIdx s r)) := by
 refine vpure_know fun hk => ?_
 simp only [factsL, facts, maxB] at hk
 refine vpure_of (ts := [4]) Tryz.func92 rfl (by simp [Tryz.ntmps92]) rfl rfl ?_
 rw [Tryz.ntmps92]
 refine oR [0, 1] ?_
 refine vwp_block ?_
 refine oR [0, 1, 160] ?_
 refine oB (fun h0 => ?_) fun h0 => ?_
 ·
  have h0a : 0 ≤ r ∧ r < 128 := by simp at h0; omega
  have hw := wrap8 h0a
  refine vwp_seq (vwp_region ?_)
  refine oG [] ?_
  refine vops_call (hc := fun _ => c_strings_IndexByte s r.toNat.toUInt8) rfl (by simp only [go_sem]; rfl) rfl b_strings_IndexByte (by simp only [go_sem]; rw [hw]; exact WkL.refl _) rfl (fun hg => by simp only [go_sem]; try (intros; first | assumption | trivial | simp_all)) ?_
  simp only [go_sem]
  refine oG [] ?_
  refine vops_done [4] ?_
  simp only [go_sem, thenQ, blockQ, jumpQ, stayQ]
  refine vwp_ret ?_
  simp only [thenQ, blockQ, jumpQ, stayQ, RetQ, go_sem]
  refine ⟨by simp, Wk.eq ?_⟩
  rw [runeIdx, if_pos h0a]
 ·
  refine oR [0, 1, 171] ?_
  refine oB (fun h1 => ?_) fun h1 => ?_
  ·
   refine vwp_seq ?_
   refine vwp_seq (vwp_region ?_)
   refine oG [] ?_
   refine vops_step1 (step_range (s := s) rfl (by kernel_rfl) (by simp only [go_sem])) rfl rfl ?_
   simp only [go_sem]
   refine vops_done [175] ?_
   simp only [go_sem, thenQ, blockQ, jumpQ, stayQ]
   refine vwp_block ?_
   refine vwp_loopW (fun q : Nat => [(175, .obj 0)]) (fun q => [.strIter s q]) (fun q => q ≤ s.length) (fun q => s.length - q) 0 (Nat.zero_le _) (wC (Env.wk_nil _)) rfl ?_
   rintro q hq0
   rcases Nat.lt_or_ge q s.length with hq | hq
   ·
    refine vwp_seq (vwp_region ?_)
    refine vops_step1 (step_next (i := 0) (q := q) rfl (by simp only [go_sem]) rfl hq) rfl rfl ?_
    simp only [go_sem, List.set]
    refine oG [] ?_
    refine vops_done [175, 176, 177] ?_
    simp only [go_sem, thenQ, blockQ, jumpQ, stayQ]
    refine vwp_seq ?_
    refine oB (fun h2 => ?_) fun h2 => ?_
    ·
     have hlt := getD_lt128 hs q
     have hrl := runeAt_low s q hq hlt
     rw [hrl]
     refine vwp_skip ?_
     try simp only [thenQ, blockQ, jumpQ, stayQ]
     refine vwp_block ?_
     refine oR [5, 6, 175] ?_
     refine oR [5, 175, 181] ?_
     refine oB (fun h3 => ?_) fun h3 => ?_
     ·
      exfalso; simp [-List.getD_eq_getElem?_getD] at h3; omega
     ·
      refine vwp_skip ?_
      try simp only [thenQ, blockQ, jumpQ, stayQ]
      exact ⟨q + 1, by omega, by omega, (Env.wk_cons2 (by simp only [go_sem]; first | exact Wk.refl _ | exact Wk.nils _ | (refine Wk.eq ?_; simp; done) | (refine Wk.eq ?_; congr 1 <;> omega)) (Env.wk_nil _)), (by first | rfl | trivial)⟩
    ·
     cases h2
   ·
    refine vwp_seq (vwp_region ?_)
    refine vops_step1 (step_nextEnd (i := 0) (q := q) rfl (by simp only [go_sem]) rfl hq) rfl rfl ?_
    simp only [go_sem]
    refine oG [] ?_
    refine vops_done [175, 176, 177] ?_
    simp only [go_sem, thenQ, blockQ, jumpQ, stayQ]
    refine vwp_seq ?_
    refine oB (fun h4 => ?_) fun h4 => ?_
    ·
     cases h4
    ·
     refine vwp_exit ?_
     simp only [thenQ, blockQ, jumpQ, stayQ, if_true, reduceIte, Nat.reduceEqDiff]
     refine oR [4] ?_
     refine vwp_ret ?_
     simp only [thenQ, blockQ, jumpQ, stayQ, RetQ, go_sem]
     refine ⟨by simp, Wk.eq ?_⟩
     rw [runeIdx, if_neg (by simp at h1; omega)]
  ·
   refine vwp_seq (vwp_region ?_)
   refine oG [] ?_
   refine oC (fun _ => c_utf8_ValidRune r) b_unicode_utf8_ValidRune ?_
   simp only [go_sem]
   refine oG [] ?_
   refine vops_done [0, 1, 183] ?_
   simp only [go_sem, thenQ, blockQ, jumpQ, stayQ]
   refine oB (fun h5 => ?_) fun h5 => ?_
   ·
    refine oR [4] ?_
    refine vwp_ret ?_
    simp only [thenQ, blockQ, jumpQ, stayQ, RetQ, go_sem]
    refine ⟨by simp, Wk.eq ?_⟩
    rw [runeIdx, if_neg (by simp at h0; omega)]
   ·
    have h5a : Lib.validRune r = true := by simpa using h5
    have h128 : 128 ≤ r := by simp [Lib.validRune] at h5a h0; omega
    obtain ⟨k, hk2, hk4, hkb⟩ := runeStr_high h5a h128
    have hsk := getD_lt128 hs k
    refine vwp_scope1 1 (fun _ _ => False) rfl ?_ (fun _ _ h => h.elim)
    refine vwp_seq (vwp_region ?_)
    refine vops_go tabOk [] (by simp only [go_sem]; rfl) (by first | trivial | (simp; done) | (simp [in64, hk2]; omega) | (simp [hk2]; done)) ?_
    refine vops_step1 (step_runeStr rfl (by kernel_rfl) (by kernel_rfl) (by simp only [go_sem]; rfl)) rfl rfl ?_
    simp only [go_sem]
    refine vops_go tabOk [] (by simp only [go_sem]; rfl) (by first | trivial | (simp; done) | (simp [in64, hk2]; omega) | (simp [hk2]; done)) ?_
    refine vops_done [0, 1, 7] ?_
    simp only [go_sem, thenQ, blockQ, jumpQ, stayQ]
    refine vwp_reg tabOk [] [0, 1, 7, 8] (by simp only [go_sem]; rfl) (by simp [hk2, in64]; omega) ?_
    refine oR [0, 1, 7, 8, 9] ?_
    refine oR [0, 1, 7, 8, 9, 10] ?_
    refine vwp_seq ?_
    refine vwp_block ?_
    refine vwp_loopW (fun u : Unit => [(0, .str s), (1, .int .i32 r), (7, .str (runeStr r)), (8, .int .i64 (k : Int)), (9, .int .i64 (k : Int)), (10, .int .i64 0)]) (fun u => []) (fun u => True) (fun u => 0) () trivial (wC (wC (wC (wC (wC (wC (Env.wk_nil _))))))) rfl ?_
    rintro u hu
    refine vwp_seq ?_
    refine oR [0, 1, 7, 8, 9, 10, 26] ?_
    refine oB (fun h6 => ?_) fun h6 => ?_
    ·
     refine vwp_skip ?_
     try simp only [thenQ, blockQ, jumpQ, stayQ]
     refine vwp_block ?_
     refine vwp_scope1 0 (fun _ _ => False) rfl ?_ (fun _ _ h => h.elim)
     refine vwp_seq ?_
     refine vwp_seq (vwp_drawD mixed (by kernel_rfl) (eF := ?_) ?_ [0, 1, 7, 8, 9, 10, 33] rfl ?_)
     rotate_left
     ·
      refine dall_go tabOk (by simp only [go_sem]; rfl) (by first | trivial | (simp; done) | (simp [hk2]; simp at h6; omega)) ?_
      exact dall_nil
     simp only [go_sem, thenQ, blockQ, jumpQ, stayQ]
     refine oB (fun h7 => ?_) fun h7 => ?_
     ·
      have hni : Lib.indexByte (s.drop (k + 1)) ((runeStr r).getD k 0) = -1 := indexByte_none fun b hb e => by have := hs b (List.mem_of_mem_drop hb); rw [e] at this; omega
      have hks : k < s.length := by simp at h6; omega
      refine vwp_seq (vwp_drawD mixed (by kernel_rfl) (eF := ?_) ?_ [0, 1, 7, 8, 9, 10, 11] rfl ?_)
      rotate_left
      ·
       refine dall_go tabOk (by simp only [go_sem]; rfl) (by first | trivial | (simp; done) | (simp [hk2, in64]; omega)) ?_
       refine dall_call (hc := fun _ => c_strings_IndexByte (s.drop (k + 1)) ((runeStr r).getD k 0)) rfl (by simp only [go_sem]; rfl) b_strings_IndexByte (by simp only [go_sem]; exact WkL.refl _) rfl (fun hg => by simp only [go_sem]; try (intros; first | assumption | trivial | simp_all)) ?_
       simp only [go_sem]
       refine dall_go tabOk (by simp only [go_sem]; rfl) (by first | trivial | (simp; done) | (simp [hk2, in64]; omega)) ?_
       exact dall_nil
      simp only [go_sem, thenQ, blockQ, jumpQ, stayQ]
      refine vwp_seq ?_
      refine oR [0, 1, 7, 8, 9, 10, 11, 43] ?_
      refine oB (fun h8 => ?_) fun h8 => ?_
      ·
       refine oR [4] ?_
       refine vwp_ret ?_
       simp only [thenQ, blockQ, jumpQ, stayQ, RetQ, go_sem]
       refine ⟨by simp, Wk.eq ?_⟩
       rw [runeIdx, if_neg (by simp at h0; omega)]
      ·
       exfalso; rw [hni] at h8; simp at h8
     ·
      exfalso; simp [-List.getD_eq_getElem?_getD] at h7; omega
    ·
     refine vwp_exit ?_
     simp only [thenQ, blockQ, jumpQ, stayQ, if_true, reduceIte, Nat.reduceEqDiff]
     refine vwp_seq ?_
     refine oR [4] ?_
     refine vwp_ret ?_
     simp only [thenQ, blockQ, jumpQ, stayQ, RetQ, go_sem]
     refine ⟨by simp, Wk.eq ?_⟩
     rw [runeIdx, if_neg (by simp at h0; omega)]
theorem c_strings_ContainsRune (s : Str) (hs : ∀ b ∈ s, b.toNat < 128) (r : Int) : VPure Go.Proofs.Tryz.prog G 59 [.str s, .int .i32 r] (.bool (decide (0 ≤ runeIdx s r))) := by
 refine vpure_of (ts := [4]) Tryz.func59 rfl (by simp [Tryz.ntmps59]) rfl rfl ?_
 rw [Tryz.ntmps59]
 refine oR [0, 1] ?_
 refine vwp_seq (vwp_region ?_)
 refine oG [] ?_
 refine oC (fun _ => c_strings_IndexRune s hs r) b_strings_IndexRune ?_
 simp only [go_sem]
 refine oG [] ?_
 refine vops_done [4] ?_
 simp only [go_sem, thenQ, blockQ, jumpQ, stayQ]
 refine vwp_ret ?_
 simp only [thenQ, blockQ, jumpQ, stayQ, RetQ, go_sem]
 refine ⟨by simp, Wk.eq ?_⟩
 rfl
def firstP (p : Int → Bool) (s : Str) : Int := match s.findIdx? fun b => p (b.toNat : Int) with | some i => (i : Int) | none => -1
theorem firstP_at {p : Int → Bool} {s : Str} {q : Nat} (hq : q < s.length) (ha : ∀ j, j < q → p ((s.getD j 0).toNat : Int) = false) (hp : p ((s.getD q 0).toNat : Int) = true) : firstP p s = q := by
 have : s.findIdx? (fun b => p (b.toNat : Int)) = some q := by
  rw [List.findIdx?_eq_some_iff_getElem]
  rw [getD_lt s q 0 hq] at hp
  refine ⟨hq, hp, fun j hj => ?_⟩
  have := ha j hj
  rw [getD_lt s j 0 (by omega)] at this
  rw [this]; simp
 rw [firstP, this]
theorem firstP_none {p : Int → Bool} {s : Str} (ha : ∀ j, j < s.length → p ((s.getD j 0).toNat : Int) = false) : firstP p s = -1 := by
 have : s.findIdx? (fun b => p (b.toNat : Int)) = none := by
  rw [List.findIdx?_eq_none_iff]
  intro b hb
  obtain ⟨j, hj, rfl⟩ := List.getElem_of_mem hb
  have := ha j hj
  rwa [getD_lt s j 0 hj] at this
 rw [firstP, this]
theorem firstP_nonneg (p : Int → Bool) (s : Str) : decide (0 ≤ firstP p s) = s.any fun b => p (b.toNat : Int) := by
 rw [firstP]
 cases h : s.findIdx? fun b => p (b.toNat : Int) with
 | some i =>
  rw [List.findIdx?_eq_some_iff_getElem] at h
  obtain ⟨h1, h2, _⟩ := h
  have : (s.any fun b => p (b.toNat : Int)) = true := List.any_eq_true.2 ⟨s[i], List.getElem_mem h1, h2⟩
  rw [this]; simp
 | none =>
  rw [List.findIdx?_eq_none_iff] at h
  have : (s.any fun b => p (b.toNat : Int)) = false := by
   rw [List.any_eq_false]; intro b hb; simp [h b hb]
  rw [this]; rfl
structure RuneP (P : Program) (G : Glob) (g : FuncId) (p : Int → Bool) : Prop where
 body : bodied P g = true
 pure : ∀ r, VPure P G g [.int .i32 r] (.bool (p r))
 high : ∀ r, 128 ≤ r → p r = true
theorem runeP_at {p : Int → Bool} (hh : ∀ r, 128 ≤ r → p r = true) (s : Str) (q : Nat) (hq : q < s.length) : (p ((runeAt s q).1 : Int) = p ((s.getD q 0).toNat : Int)) ∧ 1 ≤ (runeAt s q).2 ∧ (p ((s.getD q 0).toNat : Int) = false → (runeAt s q).2 = 1) := by
 by_cases h : (s.getD q 0).toNat < 128
 ·rw [runeAt_low s q hq h]; exact ⟨rfl, Nat.le_refl _, fun _ => rfl⟩
 ·have h1 := hh ((s.getD q 0).toNat : Int) (by omega)
  have h2 := decode_high ⟨s.toArray⟩ q (by simpa [ByteArray.size] using hq) (by
   have : (⟨s.toArray⟩ : ByteArray)[q]'(by simpa [ByteArray.size] using hq) = s.getD q 0 := by rw [getD_lt s q 0 hq]; rfl
   rw [this]; omega)
  refine ⟨?_, h2.2, fun h3 => by rw [h1] at h3; cases h3⟩
  rw [h1]
  exact hh _ (by have := h2.1; simp only [runeAt]; omega)
theorem b_strings_indexFunc : bodied Go.Proofs.Tryz.prog 120 = true := by rw [bodied, Tryz.func120]; rfl
theorem c_strings_indexFunc (g : FuncId) (p : Int → Bool) (hp : RuneP Go.Proofs.Tryz.prog G g p) (s : Str) : VPure Go.Proofs.Tryz.prog G 120 [.str s, .func (.func g) [] [], .bool true] (.int .i64 (firstP p s)) := by
 refine vpure_know fun hk => ?_
 simp only [factsL, facts, maxB] at hk
 refine vpure_of (ts := [6]) Tryz.func120 rfl (by simp [Tryz.ntmps120]) rfl rfl ?_
 rw [Tryz.ntmps120]
 refine oR [0, 1, 2] ?_
 refine vwp_seq ?_
 refine vwp_seq (vwp_region ?_)
 refine oG [] ?_
 refine vops_step1 (step_range (s := s) rfl (by kernel_rfl) (by simp only [go_sem])) rfl rfl ?_
 simp only [go_sem]
 refine vops_done [1, 2, 10] ?_
 simp only [go_sem, thenQ, blockQ, jumpQ, stayQ]
 refine vwp_block ?_
 refine vwp_loopW (fun q : Nat => [(1, .func (.func g) [] []), (2, .bool true), (10, .obj 0)]) (fun q => [.strIter s q]) (fun q => q ≤ s.length ∧ ∀ j, j < q → p ((s.getD j 0).toNat : Int) = false) (fun q => s.length - q) 0 ⟨Nat.zero_le _, fun j hj => by omega⟩ (wC (wC (wC (Env.wk_nil _)))) rfl ?_
 rintro q ⟨hq0, ha⟩
 rcases Nat.lt_or_ge q s.length with hq | hq
 ·
  refine vwp_seq (vwp_region ?_)
  refine vops_step1 (step_next (i := 0) (q := q) rfl (by simp only [go_sem]) rfl hq) rfl rfl ?_
  simp only [go_sem, List.set]
  refine oG [] ?_
  refine vops_done [1, 2, 10, 11, 12] ?_
  simp only [go_sem, thenQ, blockQ, jumpQ, stayQ]
  refine vwp_seq ?_
  refine oB (fun h0 => ?_) fun h0 => ?_
  ·
   obtain ⟨hr1, hr2, hr3⟩ := runeP_at hp.high s q hq
   refine vwp_skip ?_
   try simp only [thenQ, blockQ, jumpQ, stayQ]
   refine vwp_block ?_
   refine oR [1, 2, 7, 8, 10] ?_
   refine vwp_seq (vwp_region ?_)
   refine oG [] ?_
   refine vops_callVP (hc := (hp.pure _)) rfl (by simp only [go_sem]; rfl) rfl rfl hp.body (by simp only [go_sem]; exact WkL.refl _) rfl (by simp only [go_sem]) ?_
   simp only [go_sem]
   refine oG [] ?_
   refine vops_done [1, 2, 7, 10, 19] ?_
   simp only [go_sem, thenQ, blockQ, jumpQ, stayQ]
   refine oB (fun h1 => ?_) fun h1 => ?_
   ·
    refine oR [6] ?_
    refine vwp_ret ?_
    simp only [thenQ, blockQ, jumpQ, stayQ, RetQ, go_sem]
    refine ⟨by simp, Wk.eq ?_⟩
    rw [firstP_at hq ha (by rw [← hr1]; simpa using h1)]
   ·
    refine vwp_skip ?_
    try simp only [thenQ, blockQ, jumpQ, stayQ]
    have h1' : p ((s.getD q 0).toNat : Int) = false := by rw [← hr1]; simpa using h1
    rw [hr3 h1']
    exact ⟨q + 1, ⟨by omega, fun j hj => by rcases Nat.lt_or_ge j q with h | h; exact ha j h; rw [show j = q by omega]; exact h1'⟩, by omega, (Env.wk_cons2 (by simp only [go_sem]; first | exact Wk.refl _ | exact Wk.nils _ | (refine Wk.eq ?_; simp; done) | (refine Wk.eq ?_; congr 1 <;> omega)) (Env.wk_cons2 (by simp only [go_sem]; first | exact Wk.refl _ | exact Wk.nils _ | (refine Wk.eq ?_; simp; done) | (refine Wk.eq ?_; congr 1 <;> omega)) (Env.wk_cons2 (by simp only [go_sem]; first | exact Wk.refl _ | exact Wk.nils _ | (refine Wk.eq ?_; simp; done) | (refine Wk.eq ?_; congr 1 <;> omega)) (Env.wk_nil _)))), (by first | rfl | trivial)⟩
  ·
   cases h0
 ·
  refine vwp_seq (vwp_region ?_)
  refine vops_step1 (step_nextEnd (i := 0) (q := q) rfl (by simp only [go_sem]) rfl hq) rfl rfl ?_
  simp only [go_sem]
  refine oG [] ?_
  refine vops_done [1, 2, 10, 11, 12] ?_
  simp only [go_sem, thenQ, blockQ, jumpQ, stayQ]
  refine vwp_seq ?_
  refine oB (fun h2 => ?_) fun h2 => ?_
  ·
   cases h2
  ·
   refine vwp_exit ?_
   simp only [thenQ, blockQ, jumpQ, stayQ, if_true, reduceIte, Nat.reduceEqDiff]
   refine oR [6] ?_
   refine vwp_ret ?_
   simp only [thenQ, blockQ, jumpQ, stayQ, RetQ, go_sem]
   refine ⟨by simp, Wk.eq ?_⟩
   rw [firstP_none fun j hj => ha j (by omega)]
theorem b_strings_IndexFunc : bodied Go.Proofs.Tryz.prog 91 = true := by rw [bodied, Tryz.func91]; rfl
theorem c_strings_IndexFunc (g : FuncId) (p : Int → Bool) (hp : RuneP Go.Proofs.Tryz.prog G g p) (s : Str) : VPure Go.Proofs.Tryz.prog G 91 [.str s, .func (.func g) [] []] (.int .i64 (firstP p s)) := by
 refine vpure_of (ts := [4]) Tryz.func91 rfl (by simp [Tryz.ntmps91]) rfl rfl ?_
 rw [Tryz.ntmps91]
 refine oR [0, 1] ?_
 refine vwp_seq (vwp_region ?_)
 refine oG [] ?_
 refine oC (fun _ => c_strings_indexFunc g p hp s) b_strings_indexFunc ?_
 simp only [go_sem]
 refine oG [] ?_
 refine vops_done [4] ?_
 simp only [go_sem, thenQ, blockQ, jumpQ, stayQ]
 refine vwp_ret ?_
 simp only [thenQ, blockQ, jumpQ, stayQ, RetQ, go_sem]
 refine ⟨by simp, Wk.eq ?_⟩
 rfl
theorem b_strings_ContainsFunc : bodied Go.Proofs.Tryz.prog 57 = true := by rw [bodied, Tryz.func57]; rfl
theorem c_strings_ContainsFunc (g : FuncId) (p : Int → Bool) (hp : RuneP Go.Proofs.Tryz.prog G g p) (s : Str) : VPure Go.Proofs.Tryz.prog G 57 [.str s, .func (.func g) [] []] (.bool (s.any fun b => p (b.toNat : Int))) := by
 refine vpure_of (ts := [4]) Tryz.func57 rfl (by simp [Tryz.ntmps57]) rfl rfl ?_
 rw [Tryz.ntmps57]
 refine oR [0, 1] ?_
 refine vwp_seq (vwp_region ?_)
 refine oG [] ?_
 refine oC (fun _ => c_strings_IndexFunc g p hp s) b_strings_IndexFunc ?_
 simp only [go_sem]
 refine oG [] ?_
 refine vops_done [4] ?_
 simp only [go_sem, thenQ, blockQ, jumpQ, stayQ]
 refine vwp_ret ?_
 simp only [thenQ, blockQ, jumpQ, stayQ, RetQ, go_sem]
 refine ⟨by simp, Wk.eq ?_⟩
 rw [firstP_nonneg]
def letters1 : Str := "abcdefghijklmnopqrstuvwxyz0123456789.-".toUTF8.data.toList
def strange1 (r : Int) : Bool := !decide (0 ≤ runeIdx letters1 r)
theorem b_named_Label_1 : bodied Go.Proofs.Tryz.prog 58 = true := by rw [bodied, Tryz.func58]; rfl
theorem c_named_Label_1 (r : Int) : VPure Go.Proofs.Tryz.prog G 58 [.int .i32 r] (.bool (strange1 r)) := by
 refine vpure_of (ts := [2]) Tryz.func58 rfl (by simp [Tryz.ntmps58]) rfl rfl ?_
 rw [Tryz.ntmps58]
 refine oR [0] ?_
 refine vwp_seq (vwp_region ?_)
 refine oG [] ?_
 refine oC (fun _ => c_strings_ContainsRune letters1 (by decide +kernel) r) b_strings_ContainsRune ?_
 simp only [go_sem]
 refine oG [] ?_
 refine vops_done [2] ?_
 simp only [go_sem, thenQ, blockQ, jumpQ, stayQ]
 refine vwp_ret ?_
 simp only [thenQ, blockQ, jumpQ, stayQ, RetQ, go_sem]
 refine ⟨by simp, Wk.eq ?_⟩
 rfl
theorem strange1_byte (c : UInt8) : strange1 (c.toNat : Int) = !okL c := by
 have h : ∀ n : Fin 256, strange1 (n.val : Int) = !okL (UInt8.ofNat n.val) := by decide +kernel
 have := h ⟨c.toNat, c.toNat_lt⟩
 simpa using this
theorem strange1_any (s : Str) : (s.any fun b => strange1 (b.toNat : Int)) = !s.all okL := by
 induction s with
 | nil => rfl
 | cons b s ih => rw [List.any_cons, List.all_cons, ih, strange1_byte, Bool.not_and]
theorem strange1_high (r : Int) (h : 128 ≤ r) : strange1 r = true := by
 rw [strange1, runeIdx, if_neg (by omega)]; rfl
theorem runeP1 : RuneP Go.Proofs.Tryz.prog G 58 strange1 := ⟨b_named_Label_1, c_named_Label_1, strange1_high⟩
theorem b_named_Label : bodied Go.Proofs.Tryz.prog 29 = true := by rw [bodied, Tryz.func29]; rfl
theorem c_named_Label (s : Str) : VPure Go.Proofs.Tryz.prog G 29 [.str s] (.bool (labelB s)) := by
 refine vpure_know fun hk => ?_
 simp only [factsL, facts, maxB] at hk
 refine vpure_of (ts := [2]) Tryz.func29 rfl (by simp [Tryz.ntmps29]) rfl rfl ?_
 rw [Tryz.ntmps29]
 refine oR [0] ?_
 refine vwp_seq (vwp_region ?_)
 refine oG [] ?_
 refine oC (fun _ => c_strings_ContainsFunc _ _ runeP1 s) b_strings_ContainsFunc ?_
 simp only [go_sem]
 refine oG [] ?_
 refine vops_done [0, 3] ?_
 simp only [go_sem, thenQ, blockQ, jumpQ, stayQ]
 refine oR [2] ?_
 refine vwp_ret ?_
 simp only [thenQ, blockQ, jumpQ, stayQ, RetQ, go_sem]
 refine ⟨by simp, Wk.eq ?_⟩
 rw [strange1_any, labelB]; cases hA : s.all okL <;> simp <;> (cases s <;> simp; omega)
def letters2 : Str := "abcdefghijklmnopqrstuvwxyz0123456789._-".toUTF8.data.toList
def strange2 (r : Int) : Bool := !decide (0 ≤ runeIdx letters2 r)
theorem b_path_part_1 : bodied Go.Proofs.Tryz.prog 200 = true := by rw [bodied, Tryz.func200]; rfl
theorem c_path_part_1 (r : Int) : VPure Go.Proofs.Tryz.prog G 200 [.int .i32 r] (.bool (strange2 r)) := by
 refine vpure_of (ts := [2]) Tryz.func200 rfl (by simp [Tryz.ntmps200]) rfl rfl ?_
 rw [Tryz.ntmps200]
 refine oR [0] ?_
 refine vwp_seq (vwp_region ?_)
 refine oG [] ?_
 refine oC (fun _ => c_strings_ContainsRune letters2 (by decide +kernel) r) b_strings_ContainsRune ?_
 simp only [go_sem]
 refine oG [] ?_
 refine vops_done [2] ?_
 simp only [go_sem, thenQ, blockQ, jumpQ, stayQ]
 refine vwp_ret ?_
 simp only [thenQ, blockQ, jumpQ, stayQ, RetQ, go_sem]
 refine ⟨by simp, Wk.eq ?_⟩
 rfl
theorem strange2_byte (c : UInt8) : strange2 (c.toNat : Int) = !okP c := by
 have h : ∀ n : Fin 256, strange2 (n.val : Int) = !okP (UInt8.ofNat n.val) := by decide +kernel
 have := h ⟨c.toNat, c.toNat_lt⟩
 simpa using this
theorem strange2_any (s : Str) : (s.any fun b => strange2 (b.toNat : Int)) = !s.all okP := by
 induction s with
 | nil => rfl
 | cons b s ih => rw [List.any_cons, List.all_cons, ih, strange2_byte, Bool.not_and]
theorem strange2_high (r : Int) (h : 128 ≤ r) : strange2 r = true := by
 rw [strange2, runeIdx, if_neg (by omega)]; rfl
theorem runeP2 : RuneP Go.Proofs.Tryz.prog G 200 strange2 := ⟨b_path_part_1, c_path_part_1, strange2_high⟩
theorem b_path_part : bodied Go.Proofs.Tryz.prog 184 = true := by rw [bodied, Tryz.func184]; rfl
theorem c_path_part (s : Str) : VPure Go.Proofs.Tryz.prog G 184 [.str s] (.bool (partB s)) := by
 refine vpure_know fun hk => ?_
 simp only [factsL, facts, maxB] at hk
 refine vpure_of (ts := [2]) Tryz.func184 rfl (by simp [Tryz.ntmps184]) rfl rfl ?_
 rw [Tryz.ntmps184]
 refine oR [0] ?_
 refine vwp_seq (vwp_region ?_)
 refine oG [] ?_
 refine oC (fun _ => c_strings_ContainsFunc _ _ runeP2 s) b_strings_ContainsFunc ?_
 simp only [go_sem]
 refine oG [] ?_
 refine vops_done [0, 3] ?_
 simp only [go_sem, thenQ, blockQ, jumpQ, stayQ]
 refine oR [2] ?_
 refine vwp_ret ?_
 simp only [thenQ, blockQ, jumpQ, stayQ, RetQ, go_sem]
 refine ⟨by simp, Wk.eq ?_⟩
 rw [strange2_any, partB, show decide ((s.length : Int) ≤ 16) = decide (s.length ≤ 16) from decide_eq_decide.2 (by omega)]; cases hA : s.all okP <;> simp <;> (cases s <;> simp)
end Go.Proofs.YtnobnefabagbhaaGreatDoor.Q
end

section
/- Walks of strings.Index at one byte, and of strings.SplitSeq, in the logic 'Q'. -/
namespace Go.Proofs.YtnobnefabagbhaaGreatDoor.Q
open Go Go.Q
open Go.RowKit (Below)
theorem b_internal_stringslite_Index : bodied Go.Proofs.Tryz.prog 210 = true := by rw [bodied, Tryz.func210]; rfl
theorem c_stringslite_Index (s : Str) (c : UInt8) : VPure Go.Proofs.Tryz.prog G 210 [.str s, .str [c]] (.int .i64 (Lib.indexByte s c)) := by
 refine vpure_same fun F w ms hr hG => ⟨.int .i64 (Lib.indexByte s c), by simp only [Rel], ?_⟩
 obtain ⟨rfl, _, _⟩ := str2 hr
 refine (Tryz.stringslite_Index_one ⟨s.toArray⟩ c w).mono ?_
 rintro e w' ⟨rfl, rfl⟩
 exact ⟨by simp, Below.refl _ _⟩
theorem b_strings_Index : bodied Go.Proofs.Tryz.prog 202 = true := by rw [bodied, Tryz.func202]; rfl
theorem c_strings_Index (s : Str) (c : UInt8) : VPure Go.Proofs.Tryz.prog G 202 [.str s, .str [c]] (.int .i64 (Lib.indexByte s c)) := by
 refine vpure_of (ts := [4]) Tryz.func202 rfl (by simp [Tryz.ntmps202]) rfl rfl ?_
 rw [Tryz.ntmps202]
 refine oR [0, 1] ?_
 refine vwp_seq (vwp_region ?_)
 refine oG [] ?_
 refine oC (fun _ => c_stringslite_Index s c) b_internal_stringslite_Index ?_
 simp only [go_sem]
 refine oG [] ?_
 refine vops_done [4] ?_
 simp only [go_sem, thenQ, blockQ, jumpQ, stayQ]
 refine vwp_ret ?_
 simp only [thenQ, blockQ, jumpQ, stayQ, RetQ, go_sem]
 refine ⟨by simp, Wk.eq ?_⟩
 rfl
theorem index_none {s : Str} (h : ∀ c ∈ s, c ≠ 47) : Lib.indexByte s 47 = -1 := by
 have h1 := indexByte_nonneg s 47
 have h2 := Lib.indexByte_ge s 47
 have h3 : s.contains 47 = false := by
  rw [Bool.eq_false_iff]; intro h4
  exact h 47 (by simpa using h4) rfl
 rw [h3] at h1
 have := of_decide_eq_false h1
 omega
theorem index_some : ∀ {a : Str} (r : Str), (∀ c ∈ a, c ≠ 47) → Lib.indexByte (a ++ 47 :: r) 47 = (a.length : Int)
 | [], r, _ => by simp [Lib.indexByte]
 | x :: a, r, h => by
  have ih := index_some (a := a) r fun c hc => h c (by simp [hc])
  have hx : (x == 47) = false := by simpa using h x (by simp)
  simp only [List.cons_append, Lib.indexByte, hx, ih]
  have : ((a.length : Int) == -1) = false := by simp
  simp [this]
theorem split_47 : ∀ (s : Str), (∀ c ∈ s, c ≠ 47) ∨ ∃ a r, s = a ++ 47 :: r ∧ ∀ c ∈ a, c ≠ 47
 | [] => .inl (by simp)
 | x :: s => by
  by_cases h : x = 47
  ·exact .inr ⟨[], s, by simp [h], by simp⟩
  ·rcases split_47 s with h1 | ⟨a, r, rfl, h1⟩
   ·exact .inl fun c hc => by
     rcases List.mem_cons.1 hc with rfl | hc
     ·exact h
     ·exact h1 c hc
   ·exact .inr ⟨x :: a, r, rfl, fun c hc => by
     rcases List.mem_cons.1 hc with rfl | hc
     ·exact h
     ·exact h1 c hc⟩
theorem c_Index_none {s : Str} (h : ∀ c ∈ s, c ≠ 47) : VPure Go.Proofs.Tryz.prog G 202 [.str s, .str [47]] (.int .i64 (-1)) := by
 have := c_strings_Index s 47
 rwa [index_none h] at this
theorem c_Index_some {a : Str} (r : Str) (h : ∀ c ∈ a, c ≠ 47) : VPure Go.Proofs.Tryz.prog G 202 [.str (a ++ 47 :: r), .str [47]] (.int .i64 (a.length : Int)) := by
 have := c_strings_Index (a ++ 47 :: r) 47
 rwa [index_some r h] at this
theorem b_strings_splitSeq : bodied Go.Proofs.Tryz.prog 199 = true := by rw [bodied, Tryz.func199]; rfl
theorem c_strings_splitSeq (s t : Str) : VCalls Go.Proofs.Tryz.prog G 199 [.str s, .str t, .int .i64 0] [] [] (fun r H => r = .func (.func 207) [] [.ptr 1 0, .ptr 0 0, .ptr 2 0] ∧ H = [.box [.str s], .box [.str t], .box [.int .i64 0]]) := by
 refine vcalls_of2 tabOk (rs := _) 3 Tryz.func199 rfl (by simp [Tryz.ntmps199]) rfl (by first | (simp; done) | exact Nat.le_refl _) ?_
 rw [Tryz.ntmps199]
 refine oR [3, 4, 5] ?_
 refine oR [6] ?_
 refine vwp_ret ?_
 try simp only [thenQ, blockQ, jumpQ, stayQ, go_sem]
 refine ⟨by simp, _, _, rfl, by first | trivial | simp, ?_⟩
 first | exact ⟨rfl, rfl⟩ | rfl
theorem b_strings_SplitSeq : bodied Go.Proofs.Tryz.prog 183 = true := by rw [bodied, Tryz.func183]; rfl
theorem c_strings_SplitSeq (s t : Str) : VCalls Go.Proofs.Tryz.prog G 183 [.str s, .str t] [] [] (fun r H => r = .func (.func 207) [] [.ptr 1 0, .ptr 0 0, .ptr 2 0] ∧ H = [.box [.str s], .box [.str t], .box [.int .i64 0]]) := by
 refine vcalls_of2 tabOk (rs := _) 3 Tryz.func183 rfl (by simp [Tryz.ntmps183]) rfl (by first | (simp; done) | exact Nat.le_refl _) ?_
 rw [Tryz.ntmps183]
 refine vwp_reg tabOk [] [0, 1] (by simp only [go_sem, List.getElem?_nil]; rfl) (by first | trivial | (simp; done) | (simp [in64]; omega)) ?_
 refine vwp_seq (vwp_region ?_)
 refine oL [] ?_
 refine vops_callH (hc := c_strings_splitSeq s t) rfl rfl rfl b_strings_splitSeq [] [] [] rfl rfl rfl (by simp only [go_sem]; exact WkL.refl _) (by simp only [go_sem]) ?_
 rintro r0 H0 ⟨rfl, rfl⟩
 simp only [go_sem, List.getElem?_nil]
 refine oL [] ?_
 refine vops_done [4] ?_
 simp only [go_sem, thenQ, blockQ, jumpQ, stayQ]
 refine vwp_ret ?_
 try simp only [thenQ, blockQ, jumpQ, stayQ, go_sem]
 refine ⟨by simp, _, _, rfl, by first | trivial | simp, ?_⟩
 first | exact ⟨rfl, rfl⟩ | rfl
end Go.Proofs.YtnobnefabagbhaaGreatDoor.Q
end

section
/- strings.SplitSeq at a slash: its iterator, in the logic 'Q'. -/
namespace Go.Proofs.YtnobnefabagbhaaGreatDoor.Q
open Go Go.Q
theorem iter_split {γ : Type} (p : Str) (J : CInv γ) (R : List Str → γ → Prop) (S : γ → Prop) (hY : ∀ done x rest, pieces p = done ++ x :: rest → ∀ s, R done s → RoundJ Go.Proofs.Tryz.prog G J s (.str x) fun b s' => if b = true then R (done ++ [x]) s' else S s') (s0 : γ) (h0 : R [] s0)
  {F B : Nat → Prop} {w : World} {b0 b1 b2 : Value} (sim : Sim F [.func (.yield J.l) #[] #[], b0, b1, b2] [.dead, .box [.str p], .box [.str [47]], .box [.int .i64 0]] w) {ms : List Value} (hr : RelL F [.func (.yield J.l) #[] #[], b0, b1, b2] w [.ptr 2 0, .ptr 1 0, .ptr 3 0] ms) (hG : G.G F w) (hJ : J.J s0 F B w)
  (hF : ∀ b, B b → ¬ F b) (hL : ∀ b, B b → ¬ liveBlock [.dead, .box [.str p], .box [.str [47]], .box [.int .i64 0]] [.func (.yield J.l) #[] #[], b0, b1, b2] b) :
  CallsIn Fence.wide 0 Go.Proofs.Tryz.prog 207 (.func (.yield J.l) #[] #[] :: ms).toArray w fun e w' => ∃ s B' F' v, e = .returned v ∧ (R (pieces p) s ∨ S s) ∧ J.J s F' B' w' ∧ (∀ b, B' b → ¬ F' b) ∧ (∀ b, F b → F' b) ∧ G.G F' w' ∧ (∀ b, F' b → b < w'.heap.size) ∧
   (∀ b, F' b ∨ B' b → F b ∨ B b ∨ liveBlock [.dead, .box [.str p], .box [.str [47]], .box [.int .i64 0]] [.func (.yield J.l) #[] #[], b0, b1, b2] b ∨ w.heap.size ≤ b) ∧ Upd (fun b => B b ∨ liveBlock [.dead, .box [.str p], .box [.str [47]], .box [.int .i64 0]] [.func (.yield J.l) #[] #[], b0, b1, b2] b) w w' := by
 refine iter_of (args := [.ptr 2 0, .ptr 1 0, .ptr 3 0]) (φ := fun s => R (pieces p) s ∨ S s) Tryz.func207 rfl (by simp [Tryz.ntmps207]) rfl ?_ sim hr hG hJ hF hL
 rw [Tryz.ntmps207]
 refine vwpJ_seq (vwpJ_reg tabOk [] [0, 1, 2, 3, 11] (by simp only [go_sem]; rfl) (by first | trivial | (simp; done) | (simp [in64]; omega)) ?_)
 refine vwpJ_cond (b := false) (by simp only [go_sem]; rfl) (fun h1 => absurd h1 (by decide)) (fun _ => ?_)
 refine vwpJ_skip ?_
 simp only [thenQ]
 refine vwpJ_seq (vwpJ_block ?_)
 refine vwpJ_loop (fun x : Str => [(0, .obj 0), (1, .ptr 2 0), (2, .ptr 1 0), (3, .ptr 3 0)]) (fun x => [.dead, .box [.str x], .box [.str [47]], .box [.int .i64 0]]) (fun x s => ∃ done, pieces p = done ++ pieces x ∧ R done s) (fun x => x.length) p ⟨[], rfl, h0⟩ (Env.wk_cons (Wk.refl _) (Env.wk_cons (Wk.refl _) (Env.wk_cons (Wk.refl _) (Env.wk_cons (Wk.refl _) (Env.wk_nil _))))) rfl ?_
 rintro x s ⟨done, hp, hR⟩
 refine vwpJ_block ?_
 refine vwpJ_knowH 1 (.box [.str x]) rfl fun hk => ?_
 have hk1 : x.length ≤ 140737488355328 := by simpa [factsO, factsL, facts, maxB] using hk
 rcases split_47 x with hno | ⟨a, r, rfl, hno⟩
 ·rw [pieces_none hno] at hp
  refine vwpJ_seq (vwpJ_of ?_)
  refine vwp_region ?_
  refine vops_go tabOk [] (by simp only [go_sem]; rfl) (by first | trivial | (simp; done)) ?_
  refine vops_call (hc := fun _ => c_Index_none hno) rfl (by simp only [go_sem]; rfl) rfl b_strings_Index (by simp only [go_sem]; exact WkL.refl _) rfl (fun hg => by simp only [go_sem]) ?_
  simp only [go_sem]
  refine vops_go tabOk [] (by simp only [go_sem]; rfl) (by first | trivial | (simp; done)) ?_
  refine vops_done [0, 1, 2, 3, 7] ?_
  simp only [go_sem, thenQ]
  refine vwpJ_seq (vwpJ_reg tabOk [] [0, 1, 2, 3, 7, 33] (by simp only [go_sem]; rfl) (by first | trivial | (simp; done) | (simp [in64]; omega)) ?_)
  refine vwpJ_cond (b := true) (by simp only [go_sem]; rfl) (fun _ => ?_) (fun h1 => absurd h1 (by decide))
  refine vwpJ_exit ?_
  simp only [thenQ, blockQ, if_true]
  refine vwpJ_region ?_
  refine vopsJ_quiet tabOk rfl (by intro c hc; cases hc) rfl (by simp only [go_sem]; rfl) (by first | trivial | simp) ?_
  simp only [go_sem]
  refine vopsJ_quiet tabOk rfl (by intro c hc; cases hc) rfl (by simp only [go_sem]; rfl) (by first | trivial | simp) ?_
  simp only [go_sem]
  refine vopsJ_yield (v := .str x) rfl rfl rfl (by simp only [go_sem]) (by simp only [go_sem]) rfl (hY done x [] hp s hR) ?_
  intro b s' hb
  refine vopsJ_done ?_
  refine ⟨.inl rfl, ?_⟩
  cases b with
  | true => left; rw [hp]; exact hb
  | false => exact .inr hb
 ·rw [pieces_cut r hno] at hp
  rw [List.length_append, List.length_cons] at hk1
  refine vwpJ_seq (vwpJ_of ?_)
  refine vwp_region ?_
  refine vops_go tabOk [] (by simp only [go_sem]; rfl) (by first | trivial | (simp; done)) ?_
  refine vops_call (hc := fun _ => c_Index_some r hno) rfl (by simp only [go_sem]; rfl) rfl b_strings_Index (by simp only [go_sem]; exact WkL.refl _) rfl (fun hg => by simp only [go_sem]) ?_
  simp only [go_sem]
  refine vops_go tabOk [] (by simp only [go_sem]; rfl) (by first | trivial | (simp; done)) ?_
  refine vops_done [0, 1, 2, 3, 7] ?_
  simp only [go_sem, thenQ]
  refine vwpJ_seq (vwpJ_reg tabOk [] [0, 1, 2, 3, 7, 33] (by simp only [go_sem]; rfl) (by first | trivial | (simp; done) | (simp [in64]; omega)) ?_)
  refine vwpJ_cond (b := decide ((a.length : Int) < 0)) (by simp only [go_sem]) (fun h1 => absurd h1 (by simp)) (fun _ => ?_)
  refine vwpJ_skip ?_
  simp only [thenQ]
  refine vwpJ_reg tabOk [] [0, 1, 2, 3, 7, 8] (by simp only [go_sem]; rfl) (by first | trivial | (simp; done) | (simp [in64]; omega)) ?_
  have e1 : List.take ((a.length : Int) + 0).toNat (a ++ 47 :: r) = a := by simp
  rw [e1]
  refine vwpJ_seq (vwpJ_seq (vwpJ_region ?_))
  refine vopsJ_quiet tabOk rfl (by intro c hc; cases hc) rfl (by simp only [go_sem]; rfl) (by first | trivial | simp) ?_
  simp only [go_sem]
  refine vopsJ_quiet tabOk rfl (by intro c hc; cases hc) rfl (by simp only [go_sem]; rfl) (by first | trivial | simp) ?_
  simp only [go_sem]
  refine vopsJ_yield (v := .str a) rfl rfl rfl (by simp only [go_sem]) (by simp only [go_sem]) rfl (hY done a (pieces r) hp s hR) ?_
  intro b s' hb
  simp only [go_sem]
  refine vopsJ_quiet tabOk rfl (by intro c hc; cases hc) rfl (by simp only [go_sem]; rfl) (by first | trivial | simp) ?_
  simp only [go_sem]
  refine vopsJ_done ?_
  simp only [thenQ]
  cases b with
  | false =>
   refine vwpJ_cond (b := true) (by simp only [go_sem]) (fun _ => ?_) (fun h1 => absurd h1 (by decide))
   refine vwpJ_ret ?_
   simp only [thenQ, blockQ]
   exact ⟨.inr trivial, .inr hb⟩
  | true =>
   refine vwpJ_cond (b := false) (by simp only [go_sem]) (fun h1 => absurd h1 (by decide)) (fun _ => ?_)
   refine vwpJ_skip ?_
   simp only [thenQ, blockQ]
   refine vwpJ_trim 4 (by omega) ?_
   simp only [go_sem]
   refine vwpJ_reg1 tabOk [] [0, 1, 2, 3] (by simp only [go_sem]; rfl) (by first | trivial | (simp; done) | (simp [in64]; omega)) ?_
   have e2 : List.drop ((a.length : Int) + ([47] : List UInt8).length).toNat (a ++ 47 :: r) = r := by
    have : ((a.length : Int) + ([47] : List UInt8).length).toNat = a.length + 1 := by simp
    rw [this, ← List.drop_drop]; simp
   refine ⟨r, ⟨done ++ [a], by rw [hp]; simp, hb⟩, by simp; omega, Env.wk_cons (Wk.refl _) (Env.wk_cons (Wk.refl _) (Env.wk_cons (Wk.refl _) (Env.wk_cons (Wk.refl _) (Env.wk_nil _)))), ?_⟩
   have e3 : List.drop ((a.length : Int) + ((1 : Nat) : Int)).toNat (a ++ 47 :: r) = r := e2
   rw [e3]
end Go.Proofs.YtnobnefabagbhaaGreatDoor.Q
end

section
/- path.Right: a range over strings.SplitSeq, in the logic 'Q'. -/
namespace Go.Proofs.YtnobnefabagbhaaGreatDoor.Q
open Go Go.Q
theorem vp_path_Right (p : Str) : VCalls Go.Proofs.Tryz.prog G 153 [.str p] [] [] (fun r H => r = .bool (pathB p)) := by
 refine vcalls_know fun hk _ => ?_
 simp only [factsL, facts, maxB] at hk
 have hpl : ∀ s : Str, (pieces s).length ≤ s.length + 1 := by
  intro s
  induction s with
  | nil => simp [pieces]
  | cons c r ih =>
   simp only [pieces]
   split
   ·simp only [List.length_cons]; omega
   ·cases h : pieces r with
    | nil => simp
    | cons x t => rw [h] at ih; simp only [List.length_cons] at ih ⊢; omega
 refine vcalls_ofT Tryz.func153 rfl (by simp [Tryz.ntmps153]) ?_
 rw [Tryz.ntmps153]
 refine vwpT_seq ?_
 refine vwp_reg1 tabOk [] [0, 2] (by simp only [go_sem]; rfl) (by first | trivial | (simp; done)) ?_
 refine ⟨rfl, ?_⟩
 refine vwpT_seq ?_
 refine vwp_reg1 tabOk [] [0, 2, 3] (by simp only [go_sem]; rfl) (by first | trivial | (simp; done)) ?_
 refine ⟨rfl, ?_⟩
 refine vwpT_then ?_
 refine vwpT_seq ?_
 refine vwp_region ?_
 refine vops_go tabOk [] (by simp only [go_sem]; rfl) (by first | trivial | (simp; done)) ?_
 refine vops_callH (hc := c_strings_SplitSeq p [47]) rfl rfl rfl b_strings_SplitSeq [] [] [] rfl rfl rfl (by simp only [go_sem]; exact WkL.refl _) (by simp only [go_sem]) ?_
 rintro r0 H0 ⟨rfl, rfl⟩
 simp only [go_sem, List.getElem?_nil]
 refine vops_done [2, 3, 6] ?_
 refine ⟨rfl, ?_⟩
 simp only [go_sem]
 refine vwpT_range (γ := Nat × Bool) tabOk (rs := [.cell 2 4]) rfl (fun s => [.box [.bool false], .box [.int .i64 (s.1 : Int)]]) (0, false) [(2, .ptr 0 0), (3, .ptr 1 0)] (fun s => if s.2 then .done else .ready) (fun s => if s.2 then some .ret else none) (fI := 207)
  (cs := [.ptr 3 0, .ptr 2 0, .ptr 4 0]) (csI := [.ptr 2 0, .ptr 1 0, .ptr 3 0]) (HI := [.box [.str p], .box [.str [47]], .box [.int .i64 0]]) (φ := fun s => (s = ((pieces p).length, false) ∧ (pieces p).all partB = true) ∨ (s.2 = true ∧ (pieces p).all partB = false)) [2, 3, 4] [0, 1]
  (by simp only [go_sem]) (by rw [bodied, Tryz.func207]; rfl) rfl rfl (by simp) (by simp) (by decide) (by simp) (by simp) rfl rfl ?_ ?_ ?_ rfl ?_ ?_ ?_ ?_
 ·exact ⟨Wk.refl _, Wk.refl _, Wk.refl _, trivial⟩
 ·intro t
  simp only [Q.get]
  cases h : ((6 : Nat) == t) with
  | true =>
   have := eq_of_beq h
   subst this
   exact Wk.undef _
  | false =>
   cases h2 : ((2 : Nat) == t) with
   | true => exact Wk.refl _
   | false =>
    cases h3 : ((3 : Nat) == t) with
    | true => exact Wk.refl _
    | false => exact Wk.undef _
 ·intro c hcK hcE hcS hcP hps has hbd hsz
  obtain ⟨cl, cD, cfn, ctmps, cps, cas, cbd, cenv, cK, cst, cpd, cne⟩ := c
  simp only at hcK hcE hcS hcP hps has hbd hsz
  subst hcK; subst hcE; subst hcS; subst hcP; subst hps; subst has; subst hbd
  intro F B ρ w ms sim hr hG hJ hBF hBL
  have hlen := sim.len
  simp only [List.length_cons, List.length_nil] at hlen
  obtain ⟨b0, b1, b2, rfl⟩ : ∃ b0 b1 b2, ρ = [b0, b1, b2] := by
   match ρ, hlen with
   | [b0, b1, b2], _ => exact ⟨b0, b1, b2, rfl⟩
  refine iter_split p _ (fun done s => s = (done.length, false) ∧ done.all partB = true) (fun s => s.2 = true ∧ (pieces p).all partB = false) ?_ (0, false) ⟨rfl, rfl⟩ sim hr hG hJ hBF hBL
  rintro done x rest hp s ⟨rfl, hall⟩
  have hdl : done.length < p.length + 1 := by
   have := hpl p
   rw [hp] at this
   simp only [List.length_append, List.length_cons] at this
   omega
  clear hJ sim hr hBL
  refine round_of (M := []) _ 7 rfl rfl rfl (by show 7 < ctmps.size; omega) ?_ ?_ ?_
  ·intro t
   simp only [Q.get]
   cases h : ((2 : Nat) == t) <;> cases h : ((3 : Nat) == t) <;> rfl
  ·intro t
   simp only [Q.get]
   cases h : ((2 : Nat) == t) <;> cases h : ((3 : Nat) == t) <;> rfl
  ·show VWpR cl ⟨_, G, [], 2, ctmps.size⟩ _ _ [(7, .str x), (2, .ptr 0 0), (3, .ptr 1 0)] [.box [.bool false], .box [.int .i64 (done.length : Int)]]
   rw [hsz]
   refine vwpR_reg1 tabOk [] [2, 3, 4] rfl (fun _ _ h => by cases h.1) (by simp only [go_sem]; rfl) (by first | trivial | (simp; done)) ?_
   refine ⟨rfl, by simp, ?_⟩
   refine vwpR_block ?_
   refine vwpR_seq (vwpR_seq ?_)
   refine vwpR_region rfl (fun _ _ h => by simp [thenQ, blockQ, endQ] at h) ?_
   refine vops_go tabOk [] (by simp only [go_sem]; rfl) (by first | trivial | (simp; done)) ?_
   refine vops_call (hc := fun _ => c_path_part x) rfl (by simp only [go_sem]; rfl) rfl b_path_part (by simp only [go_sem]; exact WkL.refl _) rfl (fun hg => by simp only [go_sem]) ?_
   simp only [go_sem]
   refine vops_go tabOk [] (by simp only [go_sem]; rfl) (by first | trivial | (simp; done)) ?_
   refine vops_done [2, 3, 10] ?_
   simp only [go_sem, thenQ]
   refine vwpR_cond (b := !partB x) (by simp only [go_sem]) (fun h0 => ?_) (fun h0 => ?_)
   ·have h0' : partB x = false := by simpa using h0
    refine vwpR_seq ?_
    refine vwpR_reg1 tabOk [] [2, 3] rfl (fun _ _ h => by simp [thenQ, blockQ, endQ] at h) (by simp only [go_sem]; rfl) (by first | trivial | (simp; done)) ?_
    simp only [thenQ]
    refine vwpR_ret ?_
    simp only [thenQ, blockQ, endQ]
    refine ⟨(done.length, true), ?_, rfl, rfl, by simp, rfl, rfl⟩
    rw [if_neg (by decide)]
    exact ⟨rfl, by rw [hp]; simp [h0']⟩
   ·have h0' : partB x = true := by simpa using h0
    refine vwpR_skip ?_
    simp only [thenQ]
    refine vwpR_reg1 tabOk [] [2, 3] rfl (fun _ _ h => by simp [thenQ, blockQ, endQ] at h) (by simp only [go_sem]; rfl) (by first | trivial | (simp; done) | (simp [in64]; omega)) ?_
    simp only [blockQ, endQ]
    refine ⟨(done.length + 1, false), ?_, rfl, rfl, by simp, rfl, rfl⟩
    rw [if_pos trivial]
    exact ⟨by simp, by simp [hall, h0']⟩
 ·intro s _
  cases s.2 <;> simp
 ·intro s _
  cases s.2 <;> simp
 ·rintro s hs hpn
  have hs2 : s.2 = false := by
   cases h : s.2 with
   | false => rfl
   | true => rw [h] at hpn; cases hpn
  rcases hs with ⟨rfl, hall⟩ | ⟨h1, _⟩
  ·refine vops_all tabOk [] [2] (by simp only [go_sem]; rfl) (by first | trivial | (simp; done)) ?_
   refine ⟨rfl, _, _, rfl, by first | trivial | exact ⟨trivial, trivial⟩, ?_⟩
   rw [pathB, hall]
   simp [pack1V, ren]
   omega
  ·rw [hs2] at h1; cases h1
 ·rintro s hs hpn
  have hs2 : s.2 = true := by
   cases h : s.2 with
   | true => rfl
   | false => rw [h] at hpn; cases hpn
  rcases hs with ⟨rfl, hall⟩ | ⟨h1, h2⟩
  ·cases hs2
  ·refine ⟨_, _, rfl, by first | trivial | exact ⟨trivial, trivial⟩, ?_⟩
   rw [pathB, h2]
   rfl
theorem b_path_Right : bodied Go.Proofs.Tryz.prog 153 = true := by rw [bodied, Tryz.func153]; rfl
theorem c_path_Right (s : Str) : VPure Go.Proofs.Tryz.prog G 153 [.str s] (.bool (pathB s)) :=
 vpure_of_calls rfl ((vp_path_Right s).mono fun r H h => h ▸ Wk.refl _)
end Go.Proofs.YtnobnefabagbhaaGreatDoor.Q
end
