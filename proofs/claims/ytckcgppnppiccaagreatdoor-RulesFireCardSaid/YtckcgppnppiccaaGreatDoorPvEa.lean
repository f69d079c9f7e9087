/-
The program's functions are those that the evaluator knows.
-/
import Derived.Test.YtckcgppnppiccaaGreatDoorPvSt
import Derived.Test.YtckcgppnppiccaaGreatDoorPvP
import Derived.Test.YtckcgppnppiccaaGreatDoorProg
import Derived.KernelRfl
import Derived.WalkKit
import Derived.Lib.Bytealg
import Derived.Lib.Walk
namespace Go.Proofs.YtckcgppnppiccaaGreatDoorPv
open Go Go.Proofs
set_option maxRecDepth 100000
set_option maxHeartbeats 4000000
def x106 : Def := (.code 0 [.tmp 0] (.seq (.rg false [⟨.some 0, .none, .mv (.c (.bool false))⟩]) (.seq (.rg false [⟨.some 4, .none, .build (.agg #[.string ⟨#[]⟩, .string ⟨#[]⟩, .int .i64 0, .int .i64 0, .int .i64 0, .int .i64 0, .int .i64 0, .slice .none 0 0]) [(0, (1, .c (.string ⟨#[114]⟩))), (1, (1, .c (.string ⟨#[109]⟩))), (2, (1, .c (.int .i64 2))), (3, (1, .c (.int .i64 5))), (6, (1, .c (.int .i64 1)))]⟩, ⟨.some 1, .none, .box (.c (.agg #[.string ⟨#[]⟩, .string ⟨#[]⟩, .int .i64 0, .int .i64 0, .int .i64 0, .int .i64 0, .int .i64 0, .slice .none 0 0]))⟩, ⟨.none, .none, .st 8 (.t 1) (.t 4)⟩]) (.seq (.rg false [⟨.some 6, .none, .ld (.some 8) (.t 1)⟩, ⟨.some 7, .none, .call 109 .pure [.t 6, .c (.slice .none 0 0)]⟩, ⟨.some 5, .none, .mv (.t 7)⟩, ⟨.some 8, .none, .ext (.t 5) 0⟩, ⟨.some 9, .none, .ext (.t 5) 1⟩, ⟨.some 2, .none, .mv (.t 8)⟩, ⟨.some 3, .none, .mv (.t 9)⟩]) (.seq (.rg false [⟨.some 10, .none, .ld (.some 8) (.t 1)⟩, ⟨.some 11, .none, .call 107 .pure [.t 10, .c (.int .i64 5)]⟩, ⟨.some 12, .none, .mv (.t 11)⟩, ⟨.some 13, .some (12, true), .ld (.some 8) (.t 1)⟩, ⟨.some 14, .some (12, true), .call 107 .pure [.t 13, .c (.int .i64 4)]⟩, ⟨.some 15, .some (12, true), .un .not (.t 14)⟩, ⟨.some 16, .none, .pick (.t 12) (.t 15) (.c (.bool false))⟩, ⟨.some 17, .none, .mv (.t 16)⟩, ⟨.some 18, .some (17, true), .mv (.t 3)⟩, ⟨.some 19, .some (17, true), .bin .eql (.t 18) (.c (.int .i64 0))⟩, ⟨.some 20, .none, .pick (.t 17) (.t 19) (.c (.bool false))⟩, ⟨.some 21, .none, .mv (.t 20)⟩, ⟨.some 22, .some (21, true), .mv (.t 2)⟩, ⟨.some 23, .some (21, true), .lenL (.t 22)⟩, ⟨.some 24, .some (21, true), .bin .eql (.t 23) (.c (.int .i64 1))⟩, ⟨.some 25, .none, .pick (.t 21) (.t 24) (.c (.bool false))⟩, ⟨.some 26, .none, .mv (.t 25)⟩, ⟨.some 27, .some (26, true), .mv (.t 2)⟩, ⟨.some 28, .some (26, true), .ia 2 (.t 27) (.c (.int .i64 0))⟩, ⟨.some 29, .some (26, true), .fa 1 (.t 28)⟩, ⟨.some 30, .some (26, true), .ld .none (.t 29)⟩, ⟨.some 31, .some (26, true), .bin .eql (.t 30) (.c (.string ⟨#[114]⟩))⟩, ⟨.some 32, .none, .pick (.t 26) (.t 31) (.c (.bool false))⟩, ⟨.some 0, .none, .mv (.t 32)⟩]) .ret)))))
def x141 : Def := (.code 1 [.tmp 2] (.seq (.rg false [⟨.some 2, .none, .mv (.c (.int .i64 0))⟩]) (.seq (.cond (.c (.bool false)) (.seq (.rg false [⟨.some 3, .none, .mv (.t 0)⟩, ⟨.some 4, .none, .cvi .u32 (.t 3)⟩, ⟨.some 5, .none, .call 151 .pure [.t 4]⟩, ⟨.some 2, .none, .mv (.t 5)⟩]) .ret) .skip) (.seq (.rg false [⟨.some 6, .none, .mv (.t 0)⟩, ⟨.some 7, .none, .call 152 .pure [.t 6]⟩, ⟨.some 2, .none, .mv (.t 7)⟩]) .ret))))
def x152 : Def := (.code 1 [.tmp 2] (.seq (.rg false [⟨.some 2, .none, .mv (.c (.int .i64 0))⟩]) (.seq (.seq (.rg false [⟨.some 3, .none, .mv (.t 0)⟩, ⟨.some 4, .none, .bin .geq (.t 3) (.c (.int .u64 4294967296))⟩]) (.cond (.t 4) (.seq (.rg false [⟨.some 5, .none, .mv (.t 0)⟩, ⟨.some 6, .none, .bin .shr (.t 5) (.c (.int .u64 32))⟩, ⟨.some 0, .none, .mv (.t 6)⟩]) (.rg false [⟨.some 2, .none, .mv (.c (.int .i64 32))⟩])) .skip)) (.seq (.seq (.rg false [⟨.some 7, .none, .mv (.t 0)⟩, ⟨.some 8, .none, .bin .geq (.t 7) (.c (.int .u64 65536))⟩]) (.cond (.t 8) (.seq (.rg false [⟨.some 9, .none, .mv (.t 0)⟩, ⟨.some 10, .none, .bin .shr (.t 9) (.c (.int .u64 16))⟩, ⟨.some 0, .none, .mv (.t 10)⟩]) (.rg false [⟨.some 11, .none, .mv (.t 2)⟩, ⟨.some 12, .none, .bin .add (.t 11) (.c (.int .i64 16))⟩, ⟨.some 2, .none, .mv (.t 12)⟩])) .skip)) (.seq (.seq (.rg false [⟨.some 13, .none, .mv (.t 0)⟩, ⟨.some 14, .none, .bin .geq (.t 13) (.c (.int .u64 256))⟩]) (.cond (.t 14) (.seq (.rg false [⟨.some 15, .none, .mv (.t 0)⟩, ⟨.some 16, .none, .bin .shr (.t 15) (.c (.int .u64 8))⟩, ⟨.some 0, .none, .mv (.t 16)⟩]) (.rg false [⟨.some 17, .none, .mv (.t 2)⟩, ⟨.some 18, .none, .bin .add (.t 17) (.c (.int .i64 8))⟩, ⟨.some 2, .none, .mv (.t 18)⟩])) .skip)) (.seq (.rg false [⟨.some 19, .none, .mv (.t 2)⟩, ⟨.some 20, .none, .mv (.t 0)⟩, ⟨.some 21, .none, .cvi .u8 (.t 20)⟩, ⟨.some 22, .none, .ix (.c (.string ⟨#[0, 1, 2, 2, 3, 3, 3, 3, 4, 4, 4, 4, 4, 4, 4, 4, 5, 5, 5, 5, 5, 5, 5, 5, 5, 5, 5, 5, 5, 5, 5, 5, 6, 6, 6, 6, 6, 6, 6, 6, 6, 6, 6, 6, 6, 6, 6, 6, 6, 6, 6, 6, 6, 6, 6, 6, 6, 6, 6, 6, 6, 6, 6, 6, 7, 7, 7, 7, 7, 7, 7, 7, 7, 7, 7, 7, 7, 7, 7, 7, 7, 7, 7, 7, 7, 7, 7, 7, 7, 7, 7, 7, 7, 7, 7, 7, 7, 7, 7, 7, 7, 7, 7, 7, 7, 7, 7, 7, 7, 7, 7, 7, 7, 7, 7, 7, 7, 7, 7, 7, 7, 7, 7, 7, 7, 7, 7, 7, 8, 8, 8, 8, 8, 8, 8, 8, 8, 8, 8, 8, 8, 8, 8, 8, 8, 8, 8, 8, 8, 8, 8, 8, 8, 8, 8, 8, 8, 8, 8, 8, 8, 8, 8, 8, 8, 8, 8, 8, 8, 8, 8, 8, 8, 8, 8, 8, 8, 8, 8, 8, 8, 8, 8, 8, 8, 8, 8, 8, 8, 8, 8, 8, 8, 8, 8, 8, 8, 8, 8, 8, 8, 8, 8, 8, 8, 8, 8, 8, 8, 8, 8, 8, 8, 8, 8, 8, 8, 8, 8, 8, 8, 8, 8, 8, 8, 8, 8, 8, 8, 8, 8, 8, 8, 8, 8, 8, 8, 8, 8, 8, 8, 8, 8, 8, 8, 8, 8, 8, 8, 8, 8, 8, 8, 8, 8, 8]⟩)) (.t 21)⟩, ⟨.some 23, .none, .cvi .i64 (.t 22)⟩, ⟨.some 24, .none, .bin .add (.t 19) (.t 23)⟩, ⟨.some 2, .none, .mv (.t 24)⟩]) .ret))))))
def rkl : List (Nat × Nat) := [(1, 100), (2, 101), (3, 183), (4, 184), (5, 185), (6, 186), (7, 104), (8, 108), (9, 109), (10, 105), (11, 187), (12, 188), (13, 189), (14, 107), (15, 190), (16, 106), (17, 110), (18, 191), (19, 192), (20, 193), (21, 36), (22, 194), (23, 195), (24, 196), (25, 197), (26, 116), (27, 111), (28, 112), (29, 113), (30, 114), (31, 30), (32, 198), (33, 199), (34, 115), (35, 117), (36, 118), (37, 119), (38, 200), (39, 201), (40, 202), (41, 203), (42, 204), (43, 205), (44, 206), (45, 207), (46, 35), (47, 208), (48, 209), (49, 210), (50, 211), (51, 128), (52, 129), (53, 9), (54, 120), (55, 121), (56, 122), (57, 123), (58, 124), (59, 125), (60, 126), (61, 127), (62, 134), (63, 176), (64, 23), (65, 212), (66, 54), (67, 213), (68, 214), (69, 132), (70, 133), (71, 135), (72, 136), (73, 137), (74, 27), (75, 28), (76, 29), (77, 130), (78, 131), (79, 215), (80, 46), (81, 24), (82, 26), (83, 216), (84, 71), (85, 39), (86, 217), (87, 140), (88, 141), (89, 142), (90, 48), (91, 49), (92, 50), (93, 51), (94, 52), (95, 53), (96, 138), (97, 67), (98, 139), (99, 218), (100, 47), (101, 64), (102, 219), (103, 220), (104, 221), (105, 222), (106, 89), (107, 57), (108, 143), (109, 144), (110, 145), (111, 146), (112, 147), (113, 148), (114, 149), (115, 150), (116, 151), (117, 152), (118, 153), (119, 66), (120, 37), (121, 68), (122, 69), (123, 70), (124, 85), (125, 62), (126, 44), (127, 78), (128, 65), (129, 84), (130, 223), (131, 224), (132, 225), (133, 226), (134, 63), (135, 154), (136, 155), (137, 156), (138, 157), (139, 158), (140, 159), (141, 73), (142, 86), (143, 74), (144, 75), (145, 87), (146, 76), (147, 88), (148, 77), (149, 79), (150, 92), (151, 227), (152, 228), (153, 80), (154, 81), (155, 82), (156, 83), (157, 160), (158, 90), (159, 91), (160, 95), (161, 93), (162, 94), (163, 96), (164, 97), (165, 98), (166, 99), (167, 161), (168, 162), (169, 163), (170, 164), (171, 165), (172, 166), (173, 167), (174, 168), (175, 169), (176, 170), (177, 171), (178, 172), (179, 173), (180, 174), (181, 175), (182, 229), (183, 177), (184, 178), (185, 230), (186, 231), (187, 232), (188, 179), (189, 180), (190, 181), (191, 182)]
def rk : Nat → Option Nat := fun i => List.lookup i rkl
def kml : List (Nat × Nat) := [(9, 53), (23, 64), (24, 81), (26, 82), (27, 74), (28, 75), (29, 76), (30, 31), (35, 46), (36, 21), (37, 120), (39, 85), (44, 126), (46, 80), (47, 100), (48, 90), (49, 91), (50, 92), (51, 93), (52, 94), (53, 95), (54, 66), (57, 107), (62, 125), (63, 134), (64, 101), (65, 128), (66, 119), (67, 97), (68, 121), (69, 122), (70, 123), (71, 84), (73, 141), (74, 143), (75, 144), (76, 146), (77, 148), (78, 127), (79, 149), (80, 153), (81, 154), (82, 155), (83, 156), (84, 129), (85, 124), (86, 142), (87, 145), (88, 147), (89, 106), (90, 158), (91, 159), (92, 150), (93, 161), (94, 162), (95, 160), (96, 163), (97, 164), (98, 165), (99, 166), (100, 1), (101, 2), (104, 7), (105, 10), (106, 16), (107, 14), (108, 8), (109, 9), (110, 17), (111, 27), (112, 28), (113, 29), (114, 30), (115, 34), (116, 26), (117, 35), (118, 36), (119, 37), (120, 54), (121, 55), (122, 56), (123, 57), (124, 58), (125, 59), (126, 60), (127, 61), (128, 51), (129, 52), (130, 77), (131, 78), (132, 69), (133, 70), (134, 62), (135, 71), (136, 72), (137, 73), (138, 96), (139, 98), (140, 87), (141, 88), (142, 89), (143, 108), (144, 109), (145, 110), (146, 111), (147, 112), (148, 113), (149, 114), (150, 115), (151, 116), (152, 117), (153, 118), (154, 135), (155, 136), (156, 137), (157, 138), (158, 139), (159, 140), (160, 157), (161, 167), (162, 168), (163, 169), (164, 170), (165, 171), (166, 172), (167, 173), (168, 174), (169, 175), (170, 176), (171, 177), (172, 178), (173, 179), (174, 180), (175, 181), (176, 63), (177, 183), (178, 184), (179, 188), (180, 189), (181, 190), (182, 191), (183, 3), (184, 4), (185, 5), (186, 6), (187, 11), (188, 12), (189, 13), (190, 15), (191, 18), (192, 19), (193, 20), (194, 22), (195, 23), (196, 24), (197, 25), (198, 32), (199, 33), (200, 38), (201, 39), (202, 40), (203, 41), (204, 42), (205, 43), (206, 44), (207, 45), (208, 47), (209, 48), (210, 49), (211, 50), (212, 65), (213, 67), (214, 68), (215, 79), (216, 83), (217, 86), (218, 99), (219, 102), (220, 103), (221, 104), (222, 105), (223, 130), (224, 131), (225, 132), (226, 133), (227, 151), (228, 152), (229, 182), (230, 185), (231, 186), (232, 187)]
def kmf (k : Nat) : Nat := (List.lookup k kml).getD 0
def km : Km := ⟨kmf, fun _ _ => False⟩
theorem lookup_mem {α : Type} {l : List (Nat × α)} {i : Nat} {k : α} (h : List.lookup i l = some k) : (i, k) ∈ l := by
  induction l with
  | nil => cases h
  | cons p r ih =>
    obtain ⟨a, b⟩ := p
    simp only [List.lookup] at h
    split at h
    · rename_i he
      simp only [Option.some.injEq] at h
      subst h
      simp only [beq_iff_eq] at he
      subst he
      exact List.mem_cons_self
    · exact List.mem_cons_of_mem _ (ih h)
theorem km_all : rkl.all (fun p => km p.2 == p.1) = true := by kernel_rfl
theorem link (md : Nat → Mode) (vm : Mode) (kw : Bool) : LinkOk km ⟨rk, md, vm, kw⟩ := fun f k h => by
  have := List.all_eq_true.1 km_all _ (lookup_mem h)
  exact (by simpa using this : km k = f)
theorem mixed : Tryz.prog.follows .mixedOrders = true := by kernel_rfl
def en : List (Nat × Def) := [(9, d9), (27, d27), (28, d28), (29, d29), (30, d30), (48, d48), (49, d49), (51, d51), (66, d66), (67, d67), (68, d68), (85, d85), (104, d104), (105, d105), (106, x106), (107, d107), (108, d108), (109, d109), (110, d110), (111, d111), (112, d112), (113, d113), (114, d114), (115, d115), (116, d116), (117, d117), (118, d118), (119, d119), (120, d120), (121, d121), (122, d122), (123, d123), (124, d124), (125, d125), (126, d126), (127, d127), (128, Def.prim (cloneF 2 32)), (129, d129), (130, d130), (131, d131), (132, d132), (133, d133), (134, d134), (135, d135), (136, d136), (137, d137), (138, d138), (139, d139), (140, d140), (141, x141), (142, d142), (143, d143), (152, x152), (153, Def.prim cmpF), (183, d183), (187, d187), (188, d188), (189, d189), (190, d190), (191, d191), (192, d192), (198, d198), (199, d199), (200, d200), (201, d201)]
def env (k : Nat) : Option Def := List.lookup k en
def Lk (p : Nat × Def) : Prop := (∃ fn A, Tryz.prog.funcs[km p.1]? = some fn ∧ LinkOk km A ∧ compF Tryz.prog A fn = some p.2) ∨ ∃ f, p.2 = .prim f ∧ PrimOk km Tryz.prog p.1 f
/-- transhipment/block.Right -/
theorem l9 : Lk (9, d9) := .inl ⟨Tryz.f53, ⟨rk, fun k => if [128, 134, 135, 140, 143].contains k then .opn else .pure, .pure, false⟩, by rw [show km 9 = 53 from by kernel_rfl]; exact Tryz.func53, link _ _ _, by kernel_rfl⟩
/-- slices.ContainsFunc[[]transhipment/api.Def,transhipment/api.Def] -/
theorem l27 : Lk (27, d27) := .inl ⟨Tryz.f74, ⟨rk, fun k => if [128, 134, 135, 140, 143].contains k then .opn else .pure, .pure, false⟩, by rw [show km 27 = 74 from by kernel_rfl]; exact Tryz.func74, link _ _ _, by kernel_rfl⟩
/-- transhipment/block.Right$1 -/
theorem l28 : Lk (28, d28) := .inl ⟨Tryz.f75, ⟨rk, fun k => if [128, 134, 135, 140, 143].contains k then .opn else .pure, .pure, false⟩, by rw [show km 28 = 75 from by kernel_rfl]; exact Tryz.func75, link _ _ _, by kernel_rfl⟩
/-- transhipment/block.may -/
theorem l29 : Lk (29, d29) := .inl ⟨Tryz.f76, ⟨rk, fun k => if [128, 134, 135, 140, 143].contains k then .opn else .pure, .pure, false⟩, by rw [show km 29 = 76 from by kernel_rfl]; exact Tryz.func76, link _ _ _, by kernel_rfl⟩
/-- transhipment/transhipmentref06.Word -/
theorem l30 : Lk (30, d30) := .inl ⟨Tryz.f31, ⟨rk, fun k => if [128, 134, 135, 140, 143].contains k then .opn else .pure, .pure, false⟩, by rw [show km 30 = 31 from by kernel_rfl]; exact Tryz.func31, link _ _ _, by kernel_rfl⟩
/-- slices.IndexFunc[[]transhipment/api.Def,transhipment/api.Def] -/
theorem l48 : Lk (48, d48) := .inl ⟨Tryz.f90, ⟨rk, fun k => if [128, 134, 135, 140, 143].contains k then .opn else .pure, .pure, false⟩, by rw [show km 48 = 90 from by kernel_rfl]; exact Tryz.func90, link _ _ _, by kernel_rfl⟩
/-- transhipment/block.word -/
theorem l49 : Lk (49, d49) := .inl ⟨Tryz.f91, ⟨rk, fun k => if [128, 134, 135, 140, 143].contains k then .opn else .pure, .pure, false⟩, by rw [show km 49 = 91 from by kernel_rfl]; exact Tryz.func91, link _ _ _, by kernel_rfl⟩
/-- slices.ContainsFunc[[]string,string] -/
theorem l51 : Lk (51, d51) := .inl ⟨Tryz.f93, ⟨rk, fun k => if [128, 134, 135, 140, 143].contains k then .opn else .pure, .pure, false⟩, by rw [show km 51 = 93 from by kernel_rfl]; exact Tryz.func93, link _ _ _, by kernel_rfl⟩
/-- transhipment/block.word$1 -/
theorem l66 : Lk (66, d66) := .inl ⟨Tryz.f119, ⟨rk, fun k => if [128, 134, 135, 140, 143].contains k then .opn else .pure, .pure, false⟩, by rw [show km 66 = 119 from by kernel_rfl]; exact Tryz.func119, link _ _ _, by kernel_rfl⟩
/-- slices.ContainsFunc[[]byte,byte] -/
theorem l67 : Lk (67, d67) := .inl ⟨Tryz.f97, ⟨rk, fun k => if [128, 134, 135, 140, 143].contains k then .opn else .pure, .pure, false⟩, by rw [show km 67 = 97 from by kernel_rfl]; exact Tryz.func97, link _ _ _, by kernel_rfl⟩
/-- slices.IndexFunc[[]string,string] -/
theorem l68 : Lk (68, d68) := .inl ⟨Tryz.f121, ⟨rk, fun k => if [128, 134, 135, 140, 143].contains k then .opn else .pure, .pure, false⟩, by rw [show km 68 = 121 from by kernel_rfl]; exact Tryz.func121, link _ _ _, by kernel_rfl⟩
/-- slices.IndexFunc[[]byte,byte] -/
theorem l85 : Lk (85, d85) := .inl ⟨Tryz.f124, ⟨rk, fun k => if [128, 134, 135, 140, 143].contains k then .opn else .pure, .pure, false⟩, by rw [show km 85 = 124 from by kernel_rfl]; exact Tryz.func124, link _ _ _, by kernel_rfl⟩
/-- transhipment/transhipmentlaw08.cut -/
theorem l104 : Lk (104, d104) := .inl ⟨Tryz.f7, ⟨rk, fun k => if [128, 134, 135, 140, 143].contains k then .opn else .pure, .pure, false⟩, by rw [show km 104 = 7 from by kernel_rfl]; exact Tryz.func7, link _ _ _, by kernel_rfl⟩
/-- transhipment/rules.Right -/
theorem l105 : Lk (105, d105) := .inl ⟨Tryz.f10, ⟨rk, fun k => if [128, 134, 135, 140, 143].contains k then .opn else .pure, .pure, false⟩, by rw [show km 105 = 10 from by kernel_rfl]; exact Tryz.func10, link _ _ _, by kernel_rfl⟩
/-- transhipment/transhipmentlaw08.alive -/
theorem l106 : Lk (106, x106) := .inl ⟨Tryz.f16, ⟨rk, fun k => if [128, 134, 135, 140, 143].contains k then .opn else .pure, .pure, false⟩, by rw [show km 106 = 16 from by kernel_rfl]; exact Tryz.func16, link _ _ _, by kernel_rfl⟩
/-- transhipment/rules.Fires -/
theorem l107 : Lk (107, d107) := .inl ⟨Tryz.f14, ⟨rk, fun k => if [128, 134, 135, 140, 143].contains k then .opn else .pure, .pure, false⟩, by rw [show km 107 = 14 from by kernel_rfl]; exact Tryz.func14, link _ _ _, by kernel_rfl⟩
/-- transhipment/transhipmentlaw08.few -/
theorem l108 : Lk (108, d108) := .inl ⟨Tryz.f8, ⟨rk, fun k => if [128, 134, 135, 140, 143].contains k then .opn else .pure, .pure, false⟩, by rw [show km 108 = 8 from by kernel_rfl]; exact Tryz.func8, link _ _ _, by kernel_rfl⟩
/-- transhipment/rules.Labels -/
theorem l109 : Lk (109, d109) := .inl ⟨Tryz.f9, ⟨rk, fun k => if [128, 134, 135, 140, 143].contains k then .opn else .pure, .pure, false⟩, by rw [show km 109 = 9 from by kernel_rfl]; exact Tryz.func9, link _ _ _, by kernel_rfl⟩
/-- transhipment/transhipmentref03.Right -/
theorem l110 : Lk (110, d110) := .inl ⟨Tryz.f17, ⟨rk, fun k => if [128, 134, 135, 140, 143].contains k then .opn else .pure, .pure, false⟩, by rw [show km 110 = 17 from by kernel_rfl]; exact Tryz.func17, link _ _ _, by kernel_rfl⟩
/-- transhipment/rules.word -/
theorem l111 : Lk (111, d111) := .inl ⟨Tryz.f27, ⟨rk, fun k => if [128, 134, 135, 140, 143].contains k then .opn else .pure, .pure, false⟩, by rw [show km 111 = 27 from by kernel_rfl]; exact Tryz.func27, link _ _ _, by kernel_rfl⟩
/-- transhipment/rules.time -/
theorem l112 : Lk (112, d112) := .inl ⟨Tryz.f28, ⟨rk, fun k => if [128, 134, 135, 140, 143].contains k then .opn else .pure, .pure, false⟩, by rw [show km 112 = 28 from by kernel_rfl]; exact Tryz.func28, link _ _ _, by kernel_rfl⟩
/-- transhipment/label.Right -/
theorem l113 : Lk (113, d113) := .inl ⟨Tryz.f29, ⟨rk, fun k => if [128, 134, 135, 140, 143].contains k then .opn else .pure, .pure, false⟩, by rw [show km 113 = 29 from by kernel_rfl]; exact Tryz.func29, link _ _ _, by kernel_rfl⟩
/-- transhipment/label.Get -/
theorem l114 : Lk (114, d114) := .inl ⟨Tryz.f30, ⟨rk, fun k => if [128, 134, 135, 140, 143].contains k then .opn else .pure, .pure, false⟩, by rw [show km 114 = 30 from by kernel_rfl]; exact Tryz.func30, link _ _ _, by kernel_rfl⟩
/-- transhipment/rules.ways -/
theorem l115 : Lk (115, d115) := .inl ⟨Tryz.f34, ⟨rk, fun k => if [128, 134, 135, 140, 143].contains k then .opn else .pure, .pure, false⟩, by rw [show km 115 = 34 from by kernel_rfl]; exact Tryz.func34, link _ _ _, by kernel_rfl⟩
/-- transhipment/label.With -/
theorem l116 : Lk (116, d116) := .inl ⟨Tryz.f26, ⟨rk, fun k => if [128, 134, 135, 140, 143].contains k then .opn else .pure, .pure, false⟩, by rw [show km 116 = 26 from by kernel_rfl]; exact Tryz.func26, link _ _ _, by kernel_rfl⟩
/-- transhipment/transhipmentref03.Name -/
theorem l117 : Lk (117, d117) := .inl ⟨Tryz.f35, ⟨rk, fun k => if [128, 134, 135, 140, 143].contains k then .opn else .pure, .pure, false⟩, by rw [show km 117 = 35 from by kernel_rfl]; exact Tryz.func35, link _ _ _, by kernel_rfl⟩
/-- transhipment/transhipmentref03.Value -/
theorem l118 : Lk (118, d118) := .inl ⟨Tryz.f36, ⟨rk, fun k => if [128, 134, 135, 140, 143].contains k then .opn else .pure, .pure, false⟩, by rw [show km 118 = 36 from by kernel_rfl]; exact Tryz.func36, link _ _ _, by kernel_rfl⟩
/-- transhipment/transhipmentref03.Less -/
theorem l119 : Lk (119, d119) := .inl ⟨Tryz.f37, ⟨rk, fun k => if [128, 134, 135, 140, 143].contains k then .opn else .pure, .pure, false⟩, by rw [show km 119 = 37 from by kernel_rfl]; exact Tryz.func37, link _ _ _, by kernel_rfl⟩
/-- transhipment/label.may -/
theorem l120 : Lk (120, d120) := .inl ⟨Tryz.f54, ⟨rk, fun k => if [128, 134, 135, 140, 143].contains k then .opn else .pure, .pure, false⟩, by rw [show km 120 = 54 from by kernel_rfl]; exact Tryz.func54, link _ _ _, by kernel_rfl⟩
/-- slices.IndexFunc[[]transhipment/api.Label,transhipment/api.Label] -/
theorem l121 : Lk (121, d121) := .inl ⟨Tryz.f55, ⟨rk, fun k => if [128, 134, 135, 140, 143].contains k then .opn else .pure, .pure, false⟩, by rw [show km 121 = 55 from by kernel_rfl]; exact Tryz.func55, link _ _ _, by kernel_rfl⟩
/-- transhipment/label.Get$1 -/
theorem l122 : Lk (122, d122) := .inl ⟨Tryz.f56, ⟨rk, fun k => if [128, 134, 135, 140, 143].contains k then .opn else .pure, .pure, false⟩, by rw [show km 122 = 56 from by kernel_rfl]; exact Tryz.func56, link _ _ _, by kernel_rfl⟩
/-- transhipment/rules.ways$1 -/
theorem l123 : Lk (123, d123) := .inl ⟨Tryz.f57, ⟨rk, fun k => if [128, 134, 135, 140, 143].contains k then .opn else .pure, .pure, false⟩, by rw [show km 123 = 57 from by kernel_rfl]; exact Tryz.func57, link _ _ _, by kernel_rfl⟩
/-- transhipment/rules.ways$2 -/
theorem l124 : Lk (124, d124) := .inl ⟨Tryz.f58, ⟨rk, fun k => if [128, 134, 135, 140, 143].contains k then .opn else .pure, .pure, false⟩, by rw [show km 124 = 58 from by kernel_rfl]; exact Tryz.func58, link _ _ _, by kernel_rfl⟩
/-- transhipment/rules.ways$3 -/
theorem l125 : Lk (125, d125) := .inl ⟨Tryz.f59, ⟨rk, fun k => if [128, 134, 135, 140, 143].contains k then .opn else .pure, .pure, false⟩, by rw [show km 125 = 59 from by kernel_rfl]; exact Tryz.func59, link _ _ _, by kernel_rfl⟩
/-- transhipment/rules.ways$4 -/
theorem l126 : Lk (126, d126) := .inl ⟨Tryz.f60, ⟨rk, fun k => if [128, 134, 135, 140, 143].contains k then .opn else .pure, .pure, false⟩, by rw [show km 126 = 60 from by kernel_rfl]; exact Tryz.func60, link _ _ _, by kernel_rfl⟩
/-- transhipment/rules.ways$5 -/
theorem l127 : Lk (127, d127) := .inl ⟨Tryz.f61, ⟨rk, fun k => if [128, 134, 135, 140, 143].contains k then .opn else .pure, .pure, false⟩, by rw [show km 127 = 61 from by kernel_rfl]; exact Tryz.func61, link _ _ _, by kernel_rfl⟩
/-- slices.Clone[[]transhipment/api.Label,transhipment/api.Label] -/
theorem l128 : Lk (128, Def.prim (cloneF 2 32)) := .inr ⟨_, rfl, clone_prim (fn := Tryz.f51) (c := (Tryz.f51.body.getD .skip)) (t := 22) (e := 37) (A := ⟨rk, fun _ => .pure, .pure, false⟩) mixed (by rw [show km 128 = 51 from by kernel_rfl]; exact Tryz.func51) (by kernel_rfl) (by decide) (by kernel_rfl) (by kernel_rfl) (by kernel_rfl) (link _ _ _)
  ⟨cOp (cFst (Tryz.f51.body.getD .skip)) 0, cOp (cFst (cFst (cSnd (Tryz.f51.body.getD .skip)))) 0, cOp (cFst (cFst (cSnd (Tryz.f51.body.getD .skip)))) 1, cThen (cSnd (cFst (cSnd (Tryz.f51.body.getD .skip)))), cSnd (cSnd (Tryz.f51.body.getD .skip)), by kernel_rfl, ⟨by kernel_rfl, by kernel_rfl, by kernel_rfl⟩, ⟨by kernel_rfl, by kernel_rfl, by kernel_rfl⟩, ⟨22, by kernel_rfl, by kernel_rfl, by kernel_rfl⟩, by kernel_rfl, by kernel_rfl⟩ rfl rfl⟩
/-- transhipment/label.New -/
theorem l129 : Lk (129, d129) := .inl ⟨Tryz.f52, ⟨rk, fun k => if [128, 134, 135, 140, 143].contains k then .opn else .pure, .pure, false⟩, by rw [show km 129 = 52 from by kernel_rfl]; exact Tryz.func52, link _ _ _, by kernel_rfl⟩
/-- transhipment/label.name -/
theorem l130 : Lk (130, d130) := .inl ⟨Tryz.f77, ⟨rk, fun k => if [128, 134, 135, 140, 143].contains k then .opn else .pure, .pure, false⟩, by rw [show km 130 = 77 from by kernel_rfl]; exact Tryz.func77, link _ _ _, by kernel_rfl⟩
/-- transhipment/label.value -/
theorem l131 : Lk (131, d131) := .inl ⟨Tryz.f78, ⟨rk, fun k => if [128, 134, 135, 140, 143].contains k then .opn else .pure, .pure, false⟩, by rw [show km 131 = 78 from by kernel_rfl]; exact Tryz.func78, link _ _ _, by kernel_rfl⟩
/-- slices.ContainsFunc[[]transhipment/api.Label,transhipment/api.Label] -/
theorem l132 : Lk (132, d132) := .inl ⟨Tryz.f69, ⟨rk, fun k => if [128, 134, 135, 140, 143].contains k then .opn else .pure, .pure, false⟩, by rw [show km 132 = 69 from by kernel_rfl]; exact Tryz.func69, link _ _ _, by kernel_rfl⟩
/-- transhipment/label.New$1 -/
theorem l133 : Lk (133, d133) := .inl ⟨Tryz.f70, ⟨rk, fun k => if [128, 134, 135, 140, 143].contains k then .opn else .pure, .pure, false⟩, by rw [show km 133 = 70 from by kernel_rfl]; exact Tryz.func70, link _ _ _, by kernel_rfl⟩
/-- transhipment/label.marks -/
theorem l134 : Lk (134, d134) := .inl ⟨Tryz.f62, ⟨rk, fun k => if [128, 134, 135, 140, 143].contains k then .opn else .pure, .pure, true⟩, by rw [show km 134 = 62 from by kernel_rfl]; exact Tryz.func62, link _ _ _, by kernel_rfl⟩
/-- slices.SortFunc[[]transhipment/label.mark,transhipment/label.mark] -/
theorem l135 : Lk (135, d135) := .inl ⟨Tryz.f71, ⟨rk, fun k => if [128, 134, 135, 140, 143].contains k then .opn else .pure, .pure, false⟩, by rw [show km 135 = 71 from by kernel_rfl]; exact Tryz.func71, link _ _ _, by kernel_rfl⟩
/-- (transhipment/label.mark).compare -/
theorem l136 : Lk (136, d136) := .inl ⟨Tryz.f72, ⟨rk, fun k => if [128, 134, 135, 140, 143].contains k then .opn else .pure, .pure, false⟩, by rw [show km 136 = 72 from by kernel_rfl]; exact Tryz.func72, link _ _ _, by kernel_rfl⟩
/-- transhipment/label.labels -/
theorem l137 : Lk (137, d137) := .inl ⟨Tryz.f73, ⟨rk, fun k => if [128, 134, 135, 140, 143].contains k then .opn else .pure, .pure, false⟩, by rw [show km 137 = 73 from by kernel_rfl]; exact Tryz.func73, link _ _ _, by kernel_rfl⟩
/-- transhipment/label.letter -/
theorem l138 : Lk (138, d138) := .inl ⟨Tryz.f96, ⟨rk, fun k => if [128, 134, 135, 140, 143].contains k then .opn else .pure, .pure, false⟩, by rw [show km 138 = 96 from by kernel_rfl]; exact Tryz.func96, link _ _ _, by kernel_rfl⟩
/-- transhipment/label.value$1 -/
theorem l139 : Lk (139, d139) := .inl ⟨Tryz.f98, ⟨rk, fun k => if [128, 134, 135, 140, 143].contains k then .opn else .pure, .pure, false⟩, by rw [show km 139 = 98 from by kernel_rfl]; exact Tryz.func98, link _ _ _, by kernel_rfl⟩
/-- slices.pdqsortCmpFunc[transhipment/label.mark] -/
theorem l140 : Lk (140, d140) := .inl ⟨Tryz.f87, ⟨rk, fun k => if [128, 134, 135, 140, 143].contains k then .opn else .pure, .pure, false⟩, by rw [show km 140 = 87 from by kernel_rfl]; exact Tryz.func87, link _ _ _, by kernel_rfl⟩
/-- math/bits.Len -/
theorem l141 : Lk (141, x141) := .inl ⟨Tryz.f88, ⟨rk, fun k => if [128, 134, 135, 140, 143].contains k then .opn else .pure, .pure, false⟩, by rw [show km 141 = 88 from by kernel_rfl]; exact Tryz.func88, link _ _ _, by kernel_rfl⟩
/-- strings.Compare -/
theorem l142 : Lk (142, d142) := .inl ⟨Tryz.f89, ⟨rk, fun k => if [128, 134, 135, 140, 143].contains k then .opn else .pure, .pure, false⟩, by rw [show km 142 = 89 from by kernel_rfl]; exact Tryz.func89, link _ _ _, by kernel_rfl⟩
/-- slices.insertionSortCmpFunc[transhipment/label.mark] -/
theorem l143 : Lk (143, d143) := .inl ⟨Tryz.f108, ⟨rk, fun k => if [128, 134, 135, 140, 143].contains k then .opn else .pure, .pure, false⟩, by rw [show km 143 = 108 from by kernel_rfl]; exact Tryz.func108, link _ _ _, by kernel_rfl⟩
/-- math/bits.Len64 -/
theorem l152 : Lk (152, x152) := .inl ⟨Tryz.f117, ⟨rk, fun k => if [128, 134, 135, 140, 143].contains k then .opn else .pure, .pure, false⟩, by rw [show km 152 = 117 from by kernel_rfl]; exact Tryz.func117, link _ _ _, by kernel_rfl⟩
theorem cmp_calls (a b : ByteArray) (w : World) : Calls Tryz.prog 118 #[.string a, .string b] w fun e w' => e = .returned (.int .i64 (Lib.compareBytes a.data.toList b.data.toList)) ∧ w' = w := by
  go_enter Tryz.func118, Tryz.ntmps118
  go_wp2
  rw [run_callFunc_extern Tryz.func140 (by kernel_rfl) (by kernel_rfl) (by kernel_rfl) (e := Extern.BytealgCompare.compare) (by kernel_rfl), Lib.run_compareString]
  simp only [Result.andThen]
  rw [Oper.upon_value]
  go_wp2
  go_ret
  exact ⟨rfl, rfl⟩
/-- internal/bytealg.CompareString -/
theorem l153 : Lk (153, Def.prim cmpF) := .inr ⟨_, rfl, cmp_prim ⟨Tryz.f118, by rw [show km 153 = 118 from by kernel_rfl]; exact Tryz.func118, by kernel_rfl, by decide⟩ (by rw [show km 153 = 118 from by kernel_rfl]; exact cmp_calls)⟩
/-- transhipment/transhipmentlaw08.RulesFire -/
theorem l183 : Lk (183, d183) := .inl ⟨Tryz.f3, ⟨rk, fun k => if [128, 134, 135, 140, 143].contains k then .opn else .pure, .pure, false⟩, by rw [show km 183 = 3 from by kernel_rfl]; exact Tryz.func3, link _ _ _, by kernel_rfl⟩
/-- transhipment/transhipmentref08.Right -/
theorem l187 : Lk (187, d187) := .inl ⟨Tryz.f11, ⟨rk, fun k => if [128, 134, 135, 140, 143].contains k then .opn else .pure, .pure, false⟩, by rw [show km 187 = 11 from by kernel_rfl]; exact Tryz.func11, link _ _ _, by kernel_rfl⟩
/-- transhipment/rules.Like -/
theorem l188 : Lk (188, d188) := .inl ⟨Tryz.f12, ⟨rk, fun k => if [128, 134, 135, 140, 143].contains k then .opn else .pure, .pure, false⟩, by rw [show km 188 = 12 from by kernel_rfl]; exact Tryz.func12, link _ _ _, by kernel_rfl⟩
/-- transhipment/transhipmentref08.Like -/
theorem l189 : Lk (189, d189) := .inl ⟨Tryz.f13, ⟨rk, fun k => if [128, 134, 135, 140, 143].contains k then .opn else .pure, .pure, false⟩, by rw [show km 189 = 13 from by kernel_rfl]; exact Tryz.func13, link _ _ _, by kernel_rfl⟩
/-- transhipment/transhipmentref08.Fires -/
theorem l190 : Lk (190, d190) := .inl ⟨Tryz.f15, ⟨rk, fun k => if [128, 134, 135, 140, 143].contains k then .opn else .pure, .pure, false⟩, by rw [show km 190 = 15 from by kernel_rfl]; exact Tryz.func15, link _ _ _, by kernel_rfl⟩
/-- transhipment/transhipmentref03.With -/
theorem l191 : Lk (191, d191) := .inl ⟨Tryz.f18, ⟨rk, fun k => if [128, 134, 135, 140, 143].contains k then .opn else .pure, .pure, false⟩, by rw [show km 191 = 18 from by kernel_rfl]; exact Tryz.func18, link _ _ _, by kernel_rfl⟩
/-- transhipment/transhipmentref03.Same -/
theorem l192 : Lk (192, d192) := .inl ⟨Tryz.f19, ⟨rk, fun k => if [128, 134, 135, 140, 143].contains k then .opn else .pure, .pure, false⟩, by rw [show km 192 = 19 from by kernel_rfl]; exact Tryz.func19, link _ _ _, by kernel_rfl⟩
/-- transhipment/transhipmentref08.In -/
theorem l198 : Lk (198, d198) := .inl ⟨Tryz.f32, ⟨rk, fun k => if [128, 134, 135, 140, 143].contains k then .opn else .pure, .pure, false⟩, by rw [show km 198 = 32 from by kernel_rfl]; exact Tryz.func32, link _ _ _, by kernel_rfl⟩
/-- slices.Equal[[]transhipment/api.Label,transhipment/api.Label] -/
theorem l199 : Lk (199, d199) := .inl ⟨Tryz.f33, ⟨rk, fun k => if [128, 134, 135, 140, 143].contains k then .opn else .pure, .pure, false⟩, by rw [show km 199 = 33 from by kernel_rfl]; exact Tryz.func33, link _ _ _, by kernel_rfl⟩
/-- transhipment/transhipmentref03.Get -/
theorem l200 : Lk (200, d200) := .inl ⟨Tryz.f38, ⟨rk, fun k => if [128, 134, 135, 140, 143].contains k then .opn else .pure, .pure, false⟩, by rw [show km 200 = 38 from by kernel_rfl]; exact Tryz.func38, link _ _ _, by kernel_rfl⟩
/-- transhipment/transhipmentref03.Sorted -/
theorem l201 : Lk (201, d201) := .inl ⟨Tryz.f39, ⟨rk, fun k => if [128, 134, 135, 140, 143].contains k then .opn else .pure, .pure, false⟩, by rw [show km 201 = 39 from by kernel_rfl]; exact Tryz.func39, link _ _ _, by kernel_rfl⟩
theorem linked : Linked km Tryz.prog env := fun k D h => by
  have hm := lookup_mem h
  have hall : ∀ p ∈ en, Lk p := List.forall_mem_cons.2 ⟨l9, List.forall_mem_cons.2 ⟨l27, List.forall_mem_cons.2 ⟨l28, List.forall_mem_cons.2 ⟨l29, List.forall_mem_cons.2 ⟨l30, List.forall_mem_cons.2 ⟨l48, List.forall_mem_cons.2 ⟨l49, List.forall_mem_cons.2 ⟨l51, List.forall_mem_cons.2 ⟨l66, List.forall_mem_cons.2 ⟨l67, List.forall_mem_cons.2 ⟨l68, List.forall_mem_cons.2 ⟨l85, List.forall_mem_cons.2 ⟨l104, List.forall_mem_cons.2 ⟨l105, List.forall_mem_cons.2 ⟨l106, List.forall_mem_cons.2 ⟨l107, List.forall_mem_cons.2 ⟨l108, List.forall_mem_cons.2 ⟨l109, List.forall_mem_cons.2 ⟨l110, List.forall_mem_cons.2 ⟨l111, List.forall_mem_cons.2 ⟨l112, List.forall_mem_cons.2 ⟨l113, List.forall_mem_cons.2 ⟨l114, List.forall_mem_cons.2 ⟨l115, List.forall_mem_cons.2 ⟨l116, List.forall_mem_cons.2 ⟨l117, List.forall_mem_cons.2 ⟨l118, List.forall_mem_cons.2 ⟨l119, List.forall_mem_cons.2 ⟨l120, List.forall_mem_cons.2 ⟨l121, List.forall_mem_cons.2 ⟨l122, List.forall_mem_cons.2 ⟨l123, List.forall_mem_cons.2 ⟨l124, List.forall_mem_cons.2 ⟨l125, List.forall_mem_cons.2 ⟨l126, List.forall_mem_cons.2 ⟨l127, List.forall_mem_cons.2 ⟨l128, List.forall_mem_cons.2 ⟨l129, List.forall_mem_cons.2 ⟨l130, List.forall_mem_cons.2 ⟨l131, List.forall_mem_cons.2 ⟨l132, List.forall_mem_cons.2 ⟨l133, List.forall_mem_cons.2 ⟨l134, List.forall_mem_cons.2 ⟨l135, List.forall_mem_cons.2 ⟨l136, List.forall_mem_cons.2 ⟨l137, List.forall_mem_cons.2 ⟨l138, List.forall_mem_cons.2 ⟨l139, List.forall_mem_cons.2 ⟨l140, List.forall_mem_cons.2 ⟨l141, List.forall_mem_cons.2 ⟨l142, List.forall_mem_cons.2 ⟨l143, List.forall_mem_cons.2 ⟨l152, List.forall_mem_cons.2 ⟨l153, List.forall_mem_cons.2 ⟨l183, List.forall_mem_cons.2 ⟨l187, List.forall_mem_cons.2 ⟨l188, List.forall_mem_cons.2 ⟨l189, List.forall_mem_cons.2 ⟨l190, List.forall_mem_cons.2 ⟨l191, List.forall_mem_cons.2 ⟨l192, List.forall_mem_cons.2 ⟨l198, List.forall_mem_cons.2 ⟨l199, List.forall_mem_cons.2 ⟨l200, List.forall_mem_cons.2 ⟨l201, fun p hp => by simp at hp⟩⟩⟩⟩⟩⟩⟩⟩⟩⟩⟩⟩⟩⟩⟩⟩⟩⟩⟩⟩⟩⟩⟩⟩⟩⟩⟩⟩⟩⟩⟩⟩⟩⟩⟩⟩⟩⟩⟩⟩⟩⟩⟩⟩⟩⟩⟩⟩⟩⟩⟩⟩⟩⟩⟩⟩⟩⟩⟩⟩⟩⟩⟩⟩⟩
  exact hall _ hm
theorem has_la : Has la env := by
  unfold Has la
  repeat' first | (refine List.forall_mem_cons.2 ⟨by kernel_rfl, ?_⟩) | (intro p hp; simp at hp; done)
theorem has_lc : Has lc env := by
  unfold Has lc
  repeat' first | (refine List.forall_mem_cons.2 ⟨by kernel_rfl, ?_⟩) | (intro p hp; simp at hp; done)
theorem has_lf : Has lf env := by
  unfold Has lf
  repeat' first | (refine List.forall_mem_cons.2 ⟨by kernel_rfl, ?_⟩) | (intro p hp; simp at hp; done)
theorem has_lg : Has lg env := by
  unfold Has lg
  repeat' first | (refine List.forall_mem_cons.2 ⟨by kernel_rfl, ?_⟩) | (intro p hp; simp at hp; done)
theorem has_li : Has li env := by
  unfold Has li
  repeat' first | (refine List.forall_mem_cons.2 ⟨by kernel_rfl, ?_⟩) | (intro p hp; simp at hp; done)
theorem has_ll : Has ll env := by
  unfold Has ll
  repeat' first | (refine List.forall_mem_cons.2 ⟨by kernel_rfl, ?_⟩) | (intro p hp; simp at hp; done)
theorem has_lm : Has lm env := by
  unfold Has lm
  repeat' first | (refine List.forall_mem_cons.2 ⟨by kernel_rfl, ?_⟩) | (intro p hp; simp at hp; done)
theorem has_ln : Has ln env := by
  unfold Has ln
  repeat' first | (refine List.forall_mem_cons.2 ⟨by kernel_rfl, ?_⟩) | (intro p hp; simp at hp; done)
theorem has_lo : Has lo env := by
  unfold Has lo
  repeat' first | (refine List.forall_mem_cons.2 ⟨by kernel_rfl, ?_⟩) | (intro p hp; simp at hp; done)
theorem has_lp : Has lp env := by
  unfold Has lp
  repeat' first | (refine List.forall_mem_cons.2 ⟨by kernel_rfl, ?_⟩) | (intro p hp; simp at hp; done)
theorem has_lq : Has lq env := by
  unfold Has lq
  repeat' first | (refine List.forall_mem_cons.2 ⟨by kernel_rfl, ?_⟩) | (intro p hp; simp at hp; done)
theorem has_lr : Has lr env := by
  unfold Has lr
  repeat' first | (refine List.forall_mem_cons.2 ⟨by kernel_rfl, ?_⟩) | (intro p hp; simp at hp; done)
theorem has_lt : Has lt env := by
  unfold Has lt
  repeat' first | (refine List.forall_mem_cons.2 ⟨by kernel_rfl, ?_⟩) | (intro p hp; simp at hp; done)
end Go.Proofs.YtckcgppnppiccaaGreatDoorPv
