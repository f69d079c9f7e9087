/-
The program's functions are those that the evaluator knows.
-/
import Derived.Test.YtjijlmfhnkipmaaDoorPkLabelBackD
import Derived.Test.YtjijlmfhnkipmaaDoorPvPb
import Derived.Test.YtjijlmfhnkipmaaDoorShelf
import Derived.Test.YtjijlmfhnkipmaaDoorProg
import Derived.KernelRfl
import Derived.WalkKit
import Derived.Lib.Bytealg
import Derived.Lib.Walk
namespace Go.Proofs.YtjijlmfhnkipmaaDoorPv
open Go Go.Proofs
set_option maxRecDepth 100000
set_option maxHeartbeats 4000000
def x141 : Def := (.code 1 [.tmp 2] (.seq (.rg false [⟨.some 2, .none, .mv (.c (.int .i64 0))⟩]) (.seq (.cond (.c (.bool false)) (.seq (.rg false [⟨.some 3, .none, .mv (.t 0)⟩, ⟨.some 4, .none, .cvi .u32 (.t 3)⟩, ⟨.some 5, .none, .call 151 .pure [.t 4]⟩, ⟨.some 2, .none, .mv (.t 5)⟩]) .ret) .skip) (.seq (.rg false [⟨.some 6, .none, .mv (.t 0)⟩, ⟨.some 7, .none, .call 152 .pure [.t 6]⟩, ⟨.some 2, .none, .mv (.t 7)⟩]) .ret))))
def x151 : Def := (.code 1 [.tmp 2] (.seq (.rg false [⟨.some 2, .none, .mv (.c (.int .i64 0))⟩]) (.seq (.seq (.rg false [⟨.some 3, .none, .mv (.t 0)⟩, ⟨.some 4, .none, .bin .geq (.t 3) (.c (.int .u32 65536))⟩]) (.cond (.t 4) (.seq (.rg false [⟨.some 5, .none, .mv (.t 0)⟩, ⟨.some 6, .none, .bin .shr (.t 5) (.c (.int .u64 16))⟩, ⟨.some 0, .none, .mv (.t 6)⟩]) (.rg false [⟨.some 2, .none, .mv (.c (.int .i64 16))⟩])) .skip)) (.seq (.seq (.rg false [⟨.some 7, .none, .mv (.t 0)⟩, ⟨.some 8, .none, .bin .geq (.t 7) (.c (.int .u32 256))⟩]) (.cond (.t 8) (.seq (.rg false [⟨.some 9, .none, .mv (.t 0)⟩, ⟨.some 10, .none, .bin .shr (.t 9) (.c (.int .u64 8))⟩, ⟨.some 0, .none, .mv (.t 10)⟩]) (.rg false [⟨.some 11, .none, .mv (.t 2)⟩, ⟨.some 12, .none, .bin .add (.t 11) (.c (.int .i64 8))⟩, ⟨.some 2, .none, .mv (.t 12)⟩])) .skip)) (.seq (.rg false [⟨.some 13, .none, .mv (.t 2)⟩, ⟨.some 14, .none, .mv (.t 0)⟩, ⟨.some 15, .none, .cvi .u8 (.t 14)⟩, ⟨.some 16, .none, .ix (.c (.string ⟨#[0, 1, 2, 2, 3, 3, 3, 3, 4, 4, 4, 4, 4, 4, 4, 4, 5, 5, 5, 5, 5, 5, 5, 5, 5, 5, 5, 5, 5, 5, 5, 5, 6, 6, 6, 6, 6, 6, 6, 6, 6, 6, 6, 6, 6, 6, 6, 6, 6, 6, 6, 6, 6, 6, 6, 6, 6, 6, 6, 6, 6, 6, 6, 6, 7, 7, 7, 7, 7, 7, 7, 7, 7, 7, 7, 7, 7, 7, 7, 7, 7, 7, 7, 7, 7, 7, 7, 7, 7, 7, 7, 7, 7, 7, 7, 7, 7, 7, 7, 7, 7, 7, 7, 7, 7, 7, 7, 7, 7, 7, 7, 7, 7, 7, 7, 7, 7, 7, 7, 7, 7, 7, 7, 7, 7, 7, 7, 7, 8, 8, 8, 8, 8, 8, 8, 8, 8, 8, 8, 8, 8, 8, 8, 8, 8, 8, 8, 8, 8, 8, 8, 8, 8, 8, 8, 8, 8, 8, 8, 8, 8, 8, 8, 8, 8, 8, 8, 8, 8, 8, 8, 8, 8, 8, 8, 8, 8, 8, 8, 8, 8, 8, 8, 8, 8, 8, 8, 8, 8, 8, 8, 8, 8, 8, 8, 8, 8, 8, 8, 8, 8, 8, 8, 8, 8, 8, 8, 8, 8, 8, 8, 8, 8, 8, 8, 8, 8, 8, 8, 8, 8, 8, 8, 8, 8, 8, 8, 8, 8, 8, 8, 8, 8, 8, 8, 8, 8, 8, 8, 8, 8, 8, 8, 8, 8, 8, 8, 8, 8, 8, 8, 8, 8, 8, 8, 8]⟩)) (.t 15)⟩, ⟨.some 17, .none, .cvi .i64 (.t 16)⟩, ⟨.some 18, .none, .bin .add (.t 13) (.t 17)⟩, ⟨.some 2, .none, .mv (.t 18)⟩]) .ret)))))
def x152 : Def := (.code 1 [.tmp 2] (.seq (.rg false [⟨.some 2, .none, .mv (.c (.int .i64 0))⟩]) (.seq (.seq (.rg false [⟨.some 3, .none, .mv (.t 0)⟩, ⟨.some 4, .none, .bin .geq (.t 3) (.c (.int .u64 4294967296))⟩]) (.cond (.t 4) (.seq (.rg false [⟨.some 5, .none, .mv (.t 0)⟩, ⟨.some 6, .none, .bin .shr (.t 5) (.c (.int .u64 32))⟩, ⟨.some 0, .none, .mv (.t 6)⟩]) (.rg false [⟨.some 2, .none, .mv (.c (.int .i64 32))⟩])) .skip)) (.seq (.seq (.rg false [⟨.some 7, .none, .mv (.t 0)⟩, ⟨.some 8, .none, .bin .geq (.t 7) (.c (.int .u64 65536))⟩]) (.cond (.t 8) (.seq (.rg false [⟨.some 9, .none, .mv (.t 0)⟩, ⟨.some 10, .none, .bin .shr (.t 9) (.c (.int .u64 16))⟩, ⟨.some 0, .none, .mv (.t 10)⟩]) (.rg false [⟨.some 11, .none, .mv (.t 2)⟩, ⟨.some 12, .none, .bin .add (.t 11) (.c (.int .i64 16))⟩, ⟨.some 2, .none, .mv (.t 12)⟩])) .skip)) (.seq (.seq (.rg false [⟨.some 13, .none, .mv (.t 0)⟩, ⟨.some 14, .none, .bin .geq (.t 13) (.c (.int .u64 256))⟩]) (.cond (.t 14) (.seq (.rg false [⟨.some 15, .none, .mv (.t 0)⟩, ⟨.some 16, .none, .bin .shr (.t 15) (.c (.int .u64 8))⟩, ⟨.some 0, .none, .mv (.t 16)⟩]) (.rg false [⟨.some 17, .none, .mv (.t 2)⟩, ⟨.some 18, .none, .bin .add (.t 17) (.c (.int .i64 8))⟩, ⟨.some 2, .none, .mv (.t 18)⟩])) .skip)) (.seq (.rg false [⟨.some 19, .none, .mv (.t 2)⟩, ⟨.some 20, .none, .mv (.t 0)⟩, ⟨.some 21, .none, .cvi .u8 (.t 20)⟩, ⟨.some 22, .none, .ix (.c (.string ⟨#[0, 1, 2, 2, 3, 3, 3, 3, 4, 4, 4, 4, 4, 4, 4, 4, 5, 5, 5, 5, 5, 5, 5, 5, 5, 5, 5, 5, 5, 5, 5, 5, 6, 6, 6, 6, 6, 6, 6, 6, 6, 6, 6, 6, 6, 6, 6, 6, 6, 6, 6, 6, 6, 6, 6, 6, 6, 6, 6, 6, 6, 6, 6, 6, 7, 7, 7, 7, 7, 7, 7, 7, 7, 7, 7, 7, 7, 7, 7, 7, 7, 7, 7, 7, 7, 7, 7, 7, 7, 7, 7, 7, 7, 7, 7, 7, 7, 7, 7, 7, 7, 7, 7, 7, 7, 7, 7, 7, 7, 7, 7, 7, 7, 7, 7, 7, 7, 7, 7, 7, 7, 7, 7, 7, 7, 7, 7, 7, 8, 8, 8, 8, 8, 8, 8, 8, 8, 8, 8, 8, 8, 8, 8, 8, 8, 8, 8, 8, 8, 8, 8, 8, 8, 8, 8, 8, 8, 8, 8, 8, 8, 8, 8, 8, 8, 8, 8, 8, 8, 8, 8, 8, 8, 8, 8, 8, 8, 8, 8, 8, 8, 8, 8, 8, 8, 8, 8, 8, 8, 8, 8, 8, 8, 8, 8, 8, 8, 8, 8, 8, 8, 8, 8, 8, 8, 8, 8, 8, 8, 8, 8, 8, 8, 8, 8, 8, 8, 8, 8, 8, 8, 8, 8, 8, 8, 8, 8, 8, 8, 8, 8, 8, 8, 8, 8, 8, 8, 8, 8, 8, 8, 8, 8, 8, 8, 8, 8, 8, 8, 8, 8, 8, 8, 8, 8, 8]⟩)) (.t 21)⟩, ⟨.some 23, .none, .cvi .i64 (.t 22)⟩, ⟨.some 24, .none, .bin .add (.t 19) (.t 23)⟩, ⟨.some 2, .none, .mv (.t 24)⟩]) .ret))))))
def x240 : Def := (.code 0 [.tmp 0] (.seq (.rg false [⟨.some 0, .none, .mv (.c (.bool false))⟩]) (.seq (.rg false [⟨.some 4, .none, .build (.agg #[.string ⟨#[]⟩, .string ⟨#[]⟩]) [(0, (1, .c (.string ⟨#[97]⟩))), (1, (1, .c (.string ⟨#[98]⟩)))]⟩, ⟨.some 5, .none, .build (.agg #[.string ⟨#[]⟩, .string ⟨#[]⟩]) [(0, (1, .c (.string ⟨#[99]⟩))), (1, (1, .c (.string ⟨#[100]⟩)))]⟩, ⟨.some 6, .none, .bsl 2 (.agg #[.string ⟨#[]⟩, .string ⟨#[]⟩]) 2 [(0, .t 4), (1, .t 5)]⟩, ⟨.some 7, .none, .call 202 .pure [.t 6]⟩, ⟨.some 3, .none, .mv (.t 7)⟩, ⟨.some 8, .none, .ext (.t 3) 0⟩, ⟨.some 9, .none, .ext (.t 3) 1⟩, ⟨.some 1, .none, .mv (.t 8)⟩, ⟨.some 2, .none, .mv (.t 9)⟩]) (.seq (.rg false [⟨.some 10, .none, .mv (.t 2)⟩, ⟨.some 11, .none, .bin .eql (.t 10) (.c (.int .i64 0))⟩, ⟨.some 12, .none, .mv (.t 11)⟩, ⟨.some 13, .some (12, true), .mv (.t 1)⟩, ⟨.some 14, .some (12, true), .bin .eql (.t 13) (.c (.string ⟨#[123, 97, 61, 34, 98, 34, 44, 99, 61, 34, 100, 34, 125]⟩))⟩, ⟨.some 15, .none, .pick (.t 12) (.t 14) (.c (.bool false))⟩, ⟨.some 0, .none, .mv (.t 15)⟩]) .ret))))
def x241 : Def := (.code 1 [.tmp 2] (.seq (.rg false [⟨.some 2, .none, .mv (.c (.slice .none 0 0))⟩]) (.seq (.rg false [⟨.some 3, .none, .mv (.c (.slice .none 0 0))⟩]) (.seq (.seq (.rg false [⟨.some 6, .none, .mv (.t 0)⟩, ⟨.some 7, .none, .mv (.t 0)⟩, ⟨.some 8, .none, .lenL (.t 7)⟩, ⟨.some 9, .none, .mnmx false [.t 8, .c (.int .i64 10)]⟩, ⟨.some 10, .none, .slcL 2 (.t 6) .none (.some (.t 9))⟩, ⟨.some 11, .none, .lenL (.t 10)⟩, ⟨.some 12, .none, .mv (.c (.int .i64 0))⟩]) (.block 0 (.loop (.seq (.rg false [⟨.some 13, .none, .bin .lss (.t 12) (.t 11)⟩]) (.seq (.cond (.t 13) .skip (.exit 0)) (.seq (.block 1 (.seq (.rg false [⟨.some 14, .none, .ia 2 (.t 10) (.t 12)⟩, ⟨.some 15, .none, .ld (.some 2) (.t 14)⟩, ⟨.some 5, .none, .box (.c (.agg #[.string ⟨#[]⟩, .string ⟨#[]⟩]))⟩, ⟨.none, .none, .st 2 (.t 5) (.t 15)⟩]) (.rg true [⟨.some 16, .none, .mv (.t 3)⟩, ⟨.some 17, .none, .fa 0 (.t 5)⟩, ⟨.some 18, .none, .ld .none (.t 17)⟩, ⟨.some 19, .none, .fa 0 (.t 5)⟩, ⟨.some 20, .none, .ld .none (.t 19)⟩, ⟨.some 21, .none, .lenS (.t 20)⟩, ⟨.some 22, .none, .mnmx false [.t 21, .c (.int .i64 70)]⟩, ⟨.some 23, .none, .slcS (.t 18) .none (.some (.t 22))⟩, ⟨.some 24, .none, .fa 1 (.t 5)⟩, ⟨.some 25, .none, .ld .none (.t 24)⟩, ⟨.some 26, .none, .fa 1 (.t 5)⟩, ⟨.some 27, .none, .ld .none (.t 26)⟩, ⟨.some 28, .none, .lenS (.t 27)⟩, ⟨.some 29, .none, .mnmx false [.t 28, .c (.int .i64 70)]⟩, ⟨.some 30, .none, .slcS (.t 25) .none (.some (.t 29))⟩, ⟨.some 31, .none, .build (.agg #[.string ⟨#[]⟩, .string ⟨#[]⟩]) [(0, (1, .t 23)), (1, (1, .t 30))]⟩, ⟨.some 32, .none, .bsl 2 (.agg #[.string ⟨#[]⟩, .string ⟨#[]⟩]) 1 [(0, .t 31)]⟩, ⟨.some 33, .none, .app 2 32 false (.t 16) (.t 32)⟩, ⟨.some 3, .none, .mv (.t 33)⟩]))) (.rg false [⟨.some 34, .none, .bin .add (.t 12) (.c (.int .i64 1))⟩, ⟨.some 12, .none, .mv (.t 34)⟩]))))))) (.seq (.rg false [⟨.some 35, .none, .mv (.t 3)⟩, ⟨.some 2, .none, .mv (.t 35)⟩]) .ret)))))
def rkl : List (Nat × Nat) := [(3, 233), (4, 234), (5, 235), (6, 236), (7, 237), (8, 238), (9, 239), (10, 204), (11, 208), (12, 240), (13, 192), (14, 241), (15, 202), (16, 113), (17, 129), (18, 242), (19, 110), (20, 114), (21, 200), (22, 211), (23, 243), (24, 116), (25, 244), (26, 245), (27, 191), (28, 54), (29, 213), (30, 214), (31, 134), (32, 176), (33, 23), (34, 120), (35, 132), (36, 133), (37, 135), (38, 136), (39, 137), (40, 117), (41, 118), (42, 201), (43, 119), (44, 121), (45, 122), (46, 128), (47, 246), (48, 247), (49, 50), (50, 71), (51, 39), (52, 26), (53, 217), (54, 215), (55, 46), (56, 24), (57, 130), (58, 131), (59, 140), (60, 141), (61, 142), (62, 37), (63, 89), (64, 57), (65, 47), (66, 218), (67, 64), (68, 138), (69, 67), (70, 139), (71, 143), (72, 144), (73, 145), (74, 146), (75, 147), (76, 148), (77, 149), (78, 150), (79, 151), (80, 152), (81, 153), (82, 63), (83, 65), (84, 62), (85, 44), (86, 78), (87, 84), (88, 85), (89, 154), (90, 155), (91, 156), (92, 157), (93, 158), (94, 159), (95, 80), (96, 81), (97, 82), (98, 83), (99, 77), (100, 79), (101, 92), (102, 160), (103, 93), (104, 94), (105, 161), (106, 162), (107, 163), (108, 164), (109, 165), (110, 166), (111, 167), (112, 168), (113, 169), (114, 170), (115, 171), (116, 172), (117, 173), (118, 174), (119, 175), (120, 229), (121, 177)]
def rk : Nat → Option Nat := fun i => List.lookup i rkl
def kml : List (Nat × Nat) := [(23, 33), (24, 56), (26, 52), (37, 62), (39, 51), (44, 85), (46, 55), (47, 65), (50, 49), (54, 28), (57, 64), (62, 84), (63, 82), (64, 67), (65, 83), (67, 69), (71, 50), (77, 99), (78, 86), (79, 100), (80, 95), (81, 96), (82, 97), (83, 98), (84, 87), (85, 88), (89, 63), (92, 101), (93, 103), (94, 104), (110, 19), (113, 16), (114, 20), (116, 24), (117, 40), (118, 41), (119, 43), (120, 34), (121, 44), (122, 45), (128, 46), (129, 17), (130, 57), (131, 58), (132, 35), (133, 36), (134, 31), (135, 37), (136, 38), (137, 39), (138, 68), (139, 70), (140, 59), (141, 60), (142, 61), (143, 71), (144, 72), (145, 73), (146, 74), (147, 75), (148, 76), (149, 77), (150, 78), (151, 79), (152, 80), (153, 81), (154, 89), (155, 90), (156, 91), (157, 92), (158, 93), (159, 94), (160, 102), (161, 105), (162, 106), (163, 107), (164, 108), (165, 109), (166, 110), (167, 111), (168, 112), (169, 113), (170, 114), (171, 115), (172, 116), (173, 117), (174, 118), (175, 119), (176, 32), (177, 121), (191, 27), (192, 13), (200, 21), (201, 42), (202, 15), (204, 10), (208, 11), (211, 22), (213, 29), (214, 30), (215, 54), (217, 53), (218, 66), (229, 120), (233, 3), (234, 4), (235, 5), (236, 6), (237, 7), (238, 8), (239, 9), (240, 12), (241, 14), (242, 18), (243, 23), (244, 25), (245, 26), (246, 47), (247, 48)]
def kmf (k : Nat) : Nat := (List.lookup k kml).getD 0
def km (mx : Int) : Km := ⟨kmf, fun a v => a = ⟨0, 0, none⟩ ∧ v = .int .i64 mx, 78, 5⟩
theorem lookup_mem {α : Type} {l : List (Nat × α)} {i : Nat} {k : α} (h : List.lookup i l = some k) : (i, k) ∈ l := by
  induction l with
  | nil => cases h
  | cons p r ih =>
    obtain ⟨a, b⟩ := p
    simp only [List.lookup] at h
    split at h
    · rename_i he
      simp only [Option.some.injEq] at h
      subst h
      simp only [beq_iff_eq] at he
      subst he
      exact List.mem_cons_self
    · exact List.mem_cons_of_mem _ (ih h)
theorem km_all : rkl.all (fun p => kmf p.2 == p.1) = true := by kernel_rfl
theorem link (mx : Int) (md : Nat → Mode) (vm : Mode) (kw : Bool) (bb : Option TypeId) (hb : ∀ t, bb = some t → t = 5) : LinkOk (km mx) ⟨rk, md, vm, kw, 78, bb⟩ := ⟨fun f k h => by
  have := List.all_eq_true.1 km_all _ (lookup_mem h)
  exact (by simpa using this : kmf k = f), rfl, fun t h => (hb t h).symm⟩
theorem mixed : Tryd.prog.follows .mixedOrders = true := by kernel_rfl
def en : List (Nat × Def) := [(23, Def.prim (joinF)), (24, d24), (26, Def.prim (strF)), (37, d37), (39, d39), (47, Def.prim (ccF)), (50, d50), (54, d54), (57, d57), (63, Def.prim (pureF idxF)), (67, d67), (71, d71), (85, d85), (89, d89), (110, d110), (113, d113), (114, d114), (116, d116), (117, d117), (118, d118), (119, d119), (120, d120), (121, d121), (122, d122), (128, Def.prim (cloneF 2 32)), (129, d129), (130, d130), (131, d131), (132, d132), (133, d133), (134, d134), (135, d135), (136, d136), (137, d137), (138, d138), (139, d139), (140, d140), (141, x141), (142, d142), (143, d143), (151, x151), (152, x152), (153, Def.prim (cmpF)), (176, d176), (191, d191), (192, d192), (200, d200), (201, d201), (202, d202), (204, d204), (208, d208), (211, d211), (213, d213), (214, d214), (215, Def.prim (replF)), (217, d217), (233, d233), (234, d234), (235, d235), (240, x240), (241, x241), (242, d242), (243, d243), (245, d245), (247, d247)]
def env (k : Nat) : Option Def := List.lookup k en
def Lk (mx : Int) (p : Nat × Def) : Prop := (∃ fn A, Tryd.prog.funcs[(km mx) p.1]? = some fn ∧ LinkOk (km mx) A ∧ compF Tryd.prog A fn = some p.2) ∨ ∃ f, p.2 = .prim f ∧ PrimOk (km mx) Tryd.prog p.1 f
/-- strings.Join -/
theorem l23 (mx : Int) : Lk mx (23, Def.prim (joinF)) := .inr ⟨_, rfl, join_prim ⟨Tryd.f33, by rw [show (km mx) 23 = 33 from by kernel_rfl]; exact Tryd.func33, by kernel_rfl, by decide⟩ (by rw [show (km mx) 23 = 33 from by kernel_rfl]; exact fun bk o c xs sep w h1 h2 h3 h4 h5 => Tryd.strings_Join bk o c xs sep w h1 h2 h3 h4 h5) (by rw [show (km mx) 23 = 33 from by kernel_rfl]; exact fun a c sep w => Tryd.strings_Join_none a c sep w)⟩
/-- (*strings.Builder).WriteString -/
theorem l24 (mx : Int) : Lk mx (24, d24) := .inl ⟨Tryd.f56, ⟨rk, fun k => if [24, 25, 26, 38, 41, 47, 56, 128, 134, 135, 140, 143, 217, 246].contains k then .opn else .pure, .pure, false, 78, some 5⟩, by rw [show (km mx) 24 = 56 from by kernel_rfl]; exact Tryd.func56, link mx _ _ _ _ (by intro t h; cases h <;> rfl), by kernel_rfl⟩
/-- (*strings.Builder).String -/
theorem l26 (mx : Int) : Lk mx (26, Def.prim (strF)) := .inr ⟨_, rfl, str_prim ⟨Tryd.f52, by rw [show (km mx) 26 = 52 from by kernel_rfl]; exact Tryd.func52, by kernel_rfl, by decide⟩ (by rw [show (km mx) 26 = 52 from by kernel_rfl]; exact fun b w h => bstr_none Tryd.lays169 Tryd.Builder_Extra_169 b w h) (by rw [show (km mx) 26 = 52 from by kernel_rfl]; exact fun b c cap n l w h1 h2 h3 h4 h5 h6 h7 => bstr_some Tryd.lays169 Tryd.Builder_Extra_169 b c cap n l w h1 h2 h3 h4 h5 h6 h7)⟩
/-- slices.Index[[]string,string] -/
theorem l37 (mx : Int) : Lk mx (37, d37) := .inl ⟨Tryd.f62, ⟨rk, fun k => if [24, 25, 26, 38, 41, 47, 56, 128, 134, 135, 140, 143, 217, 246].contains k then .opn else .pure, .pure, false, 78, none⟩, by rw [show (km mx) 37 = 62 from by kernel_rfl]; exact Tryd.func62, link mx _ _ _ _ (by intro t h; cases h <;> rfl), by kernel_rfl⟩
/-- strings.Cut -/
theorem l39 (mx : Int) : Lk mx (39, d39) := .inl ⟨Tryd.f51, ⟨rk, fun k => if [24, 25, 26, 38, 41, 47, 56, 128, 134, 135, 140, 143, 217, 246].contains k then .opn else .pure, .pure, false, 78, none⟩, by rw [show (km mx) 39 = 51 from by kernel_rfl]; exact Tryd.func51, link mx _ _ _ _ (by intro t h; cases h <;> rfl), by kernel_rfl⟩
/-- (*strings.Builder).copyCheck -/
theorem l47 (mx : Int) : Lk mx (47, Def.prim (ccF)) := .inr ⟨_, rfl, cc_prim ⟨Tryd.f65, by rw [show (km mx) 47 = 65 from by kernel_rfl]; exact Tryd.func65, by kernel_rfl, by decide⟩ (by rw [show (km mx) 47 = 65 from by kernel_rfl]; exact fun b w h => Any.Builder_copyCheck_used { Tryd.lays156 with } Tryd.Builder_Extra_156.toX72 b w h) (by rw [show (km mx) 47 = 65 from by kernel_rfl]; exact fun b w h hs hf => Any.Builder_copyCheck_fresh { Tryd.lays156 with } Tryd.Builder_Extra_156.toX72 b w h hs hf)⟩
/-- slices.Contains[[]string,string] -/
theorem l50 (mx : Int) : Lk mx (50, d50) := .inl ⟨Tryd.f49, ⟨rk, fun k => if [24, 25, 26, 38, 41, 47, 56, 128, 134, 135, 140, 143, 217, 246].contains k then .opn else .pure, .pure, false, 78, none⟩, by rw [show (km mx) 50 = 49 from by kernel_rfl]; exact Tryd.func49, link mx _ _ _ _ (by intro t h; cases h <;> rfl), by kernel_rfl⟩
/-- strings.CutPrefix -/
theorem l54 (mx : Int) : Lk mx (54, d54) := .inl ⟨Tryd.f28, ⟨rk, fun k => if [24, 25, 26, 38, 41, 47, 56, 128, 134, 135, 140, 143, 217, 246].contains k then .opn else .pure, .pure, false, 78, none⟩, by rw [show (km mx) 54 = 28 from by kernel_rfl]; exact Tryd.func28, link mx _ _ _ _ (by intro t h; cases h <;> rfl), by kernel_rfl⟩
/-- internal/stringslite.Cut -/
theorem l57 (mx : Int) : Lk mx (57, d57) := .inl ⟨Tryd.f64, ⟨rk, fun k => if [24, 25, 26, 38, 41, 47, 56, 128, 134, 135, 140, 143, 217, 246].contains k then .opn else .pure, .pure, false, 78, none⟩, by rw [show (km mx) 57 = 64 from by kernel_rfl]; exact Tryd.func64, link mx _ _ _ _ (by intro t h; cases h <;> rfl), by kernel_rfl⟩
/-- internal/stringslite.Index -/
theorem l63 (mx : Int) : Lk mx (63, Def.prim (pureF idxF)) := .inr ⟨_, rfl, idx_prim ⟨Tryd.f82, by rw [show (km mx) 63 = 82 from by kernel_rfl]; exact Tryd.func82, by kernel_rfl, by decide⟩ (show (km mx).G _ _ from ⟨rfl, rfl⟩) (by rw [show (km mx) 63 = 82 from by kernel_rfl]; exact fun s sub w h1 h2 => Tryd.stringslite_Index s sub mx w h1 h2)⟩
/-- slices.ContainsFunc[[]byte,byte] -/
theorem l67 (mx : Int) : Lk mx (67, d67) := .inl ⟨Tryd.f69, ⟨rk, fun k => if [24, 25, 26, 38, 41, 47, 56, 128, 134, 135, 140, 143, 217, 246].contains k then .opn else .pure, .pure, false, 78, none⟩, by rw [show (km mx) 67 = 69 from by kernel_rfl]; exact Tryd.func69, link mx _ _ _ _ (by intro t h; cases h <;> rfl), by kernel_rfl⟩
/-- internal/stringslite.CutPrefix -/
theorem l71 (mx : Int) : Lk mx (71, d71) := .inl ⟨Tryd.f50, ⟨rk, fun k => if [24, 25, 26, 38, 41, 47, 56, 128, 134, 135, 140, 143, 217, 246].contains k then .opn else .pure, .pure, false, 78, none⟩, by rw [show (km mx) 71 = 50 from by kernel_rfl]; exact Tryd.func50, link mx _ _ _ _ (by intro t h; cases h <;> rfl), by kernel_rfl⟩
/-- slices.IndexFunc[[]byte,byte] -/
theorem l85 (mx : Int) : Lk mx (85, d85) := .inl ⟨Tryd.f88, ⟨rk, fun k => if [24, 25, 26, 38, 41, 47, 56, 128, 134, 135, 140, 143, 217, 246].contains k then .opn else .pure, .pure, false, 78, none⟩, by rw [show (km mx) 85 = 88 from by kernel_rfl]; exact Tryd.func88, link mx _ _ _ _ (by intro t h; cases h <;> rfl), by kernel_rfl⟩
/-- internal/stringslite.HasPrefix -/
theorem l89 (mx : Int) : Lk mx (89, d89) := .inl ⟨Tryd.f63, ⟨rk, fun k => if [24, 25, 26, 38, 41, 47, 56, 128, 134, 135, 140, 143, 217, 246].contains k then .opn else .pure, .pure, false, 78, none⟩, by rw [show (km mx) 89 = 63 from by kernel_rfl]; exact Tryd.func63, link mx _ _ _ _ (by intro t h; cases h <;> rfl), by kernel_rfl⟩
/-- transhipment/transhipmentref03.Right -/
theorem l110 (mx : Int) : Lk mx (110, d110) := .inl ⟨Tryd.f19, ⟨rk, fun k => if [24, 25, 26, 38, 41, 47, 56, 128, 134, 135, 140, 143, 217, 246].contains k then .opn else .pure, .pure, false, 78, none⟩, by rw [show (km mx) 110 = 19 from by kernel_rfl]; exact Tryd.func19, link mx _ _ _ _ (by intro t h; cases h <;> rfl), by kernel_rfl⟩
/-- transhipment/label.Right -/
theorem l113 (mx : Int) : Lk mx (113, d113) := .inl ⟨Tryd.f16, ⟨rk, fun k => if [24, 25, 26, 38, 41, 47, 56, 128, 134, 135, 140, 143, 217, 246].contains k then .opn else .pure, .pure, false, 78, none⟩, by rw [show (km mx) 113 = 16 from by kernel_rfl]; exact Tryd.func16, link mx _ _ _ _ (by intro t h; cases h <;> rfl), by kernel_rfl⟩
/-- transhipment/label.Get -/
theorem l114 (mx : Int) : Lk mx (114, d114) := .inl ⟨Tryd.f20, ⟨rk, fun k => if [24, 25, 26, 38, 41, 47, 56, 128, 134, 135, 140, 143, 217, 246].contains k then .opn else .pure, .pure, false, 78, none⟩, by rw [show (km mx) 114 = 20 from by kernel_rfl]; exact Tryd.func20, link mx _ _ _ _ (by intro t h; cases h <;> rfl), by kernel_rfl⟩
/-- transhipment/label.With -/
theorem l116 (mx : Int) : Lk mx (116, d116) := .inl ⟨Tryd.f24, ⟨rk, fun k => if [24, 25, 26, 38, 41, 47, 56, 128, 134, 135, 140, 143, 217, 246].contains k then .opn else .pure, .pure, false, 78, none⟩, by rw [show (km mx) 116 = 24 from by kernel_rfl]; exact Tryd.func24, link mx _ _ _ _ (by intro t h; cases h <;> rfl), by kernel_rfl⟩
/-- transhipment/transhipmentref03.Name -/
theorem l117 (mx : Int) : Lk mx (117, d117) := .inl ⟨Tryd.f40, ⟨rk, fun k => if [24, 25, 26, 38, 41, 47, 56, 128, 134, 135, 140, 143, 217, 246].contains k then .opn else .pure, .pure, false, 78, none⟩, by rw [show (km mx) 117 = 40 from by kernel_rfl]; exact Tryd.func40, link mx _ _ _ _ (by intro t h; cases h <;> rfl), by kernel_rfl⟩
/-- transhipment/transhipmentref03.Value -/
theorem l118 (mx : Int) : Lk mx (118, d118) := .inl ⟨Tryd.f41, ⟨rk, fun k => if [24, 25, 26, 38, 41, 47, 56, 128, 134, 135, 140, 143, 217, 246].contains k then .opn else .pure, .pure, false, 78, none⟩, by rw [show (km mx) 118 = 41 from by kernel_rfl]; exact Tryd.func41, link mx _ _ _ _ (by intro t h; cases h <;> rfl), by kernel_rfl⟩
/-- transhipment/transhipmentref03.Less -/
theorem l119 (mx : Int) : Lk mx (119, d119) := .inl ⟨Tryd.f43, ⟨rk, fun k => if [24, 25, 26, 38, 41, 47, 56, 128, 134, 135, 140, 143, 217, 246].contains k then .opn else .pure, .pure, false, 78, none⟩, by rw [show (km mx) 119 = 43 from by kernel_rfl]; exact Tryd.func43, link mx _ _ _ _ (by intro t h; cases h <;> rfl), by kernel_rfl⟩
/-- transhipment/label.may -/
theorem l120 (mx : Int) : Lk mx (120, d120) := .inl ⟨Tryd.f34, ⟨rk, fun k => if [24, 25, 26, 38, 41, 47, 56, 128, 134, 135, 140, 143, 217, 246].contains k then .opn else .pure, .pure, false, 78, none⟩, by rw [show (km mx) 120 = 34 from by kernel_rfl]; exact Tryd.func34, link mx _ _ _ _ (by intro t h; cases h <;> rfl), by kernel_rfl⟩
/-- slices.IndexFunc[[]transhipment/api.Label,transhipment/api.Label] -/
theorem l121 (mx : Int) : Lk mx (121, d121) := .inl ⟨Tryd.f44, ⟨rk, fun k => if [24, 25, 26, 38, 41, 47, 56, 128, 134, 135, 140, 143, 217, 246].contains k then .opn else .pure, .pure, false, 78, none⟩, by rw [show (km mx) 121 = 44 from by kernel_rfl]; exact Tryd.func44, link mx _ _ _ _ (by intro t h; cases h <;> rfl), by kernel_rfl⟩
/-- transhipment/label.Get$1 -/
theorem l122 (mx : Int) : Lk mx (122, d122) := .inl ⟨Tryd.f45, ⟨rk, fun k => if [24, 25, 26, 38, 41, 47, 56, 128, 134, 135, 140, 143, 217, 246].contains k then .opn else .pure, .pure, false, 78, none⟩, by rw [show (km mx) 122 = 45 from by kernel_rfl]; exact Tryd.func45, link mx _ _ _ _ (by intro t h; cases h <;> rfl), by kernel_rfl⟩
/-- slices.Clone[[]transhipment/api.Label,transhipment/api.Label] -/
theorem l128 (mx : Int) : Lk mx (128, Def.prim (cloneF 2 32)) := .inr ⟨_, rfl, clone_prim (fn := Tryd.f46) (c := (Tryd.f46.body.getD .skip)) (t := 22) (e := 49) (A := ⟨rk, fun _ => .pure, .pure, false, 78, none⟩) mixed (by rw [show (km mx) 128 = 46 from by kernel_rfl]; exact Tryd.func46) (by kernel_rfl) (by decide) (by kernel_rfl) (by kernel_rfl) (by kernel_rfl) (link mx _ _ _ _ (by intro t h; cases h <;> rfl))
  ⟨cOp (cFst (Tryd.f46.body.getD .skip)) 0, cOp (cFst (cFst (cSnd (Tryd.f46.body.getD .skip)))) 0, cOp (cFst (cFst (cSnd (Tryd.f46.body.getD .skip)))) 1, cThen (cSnd (cFst (cSnd (Tryd.f46.body.getD .skip)))), cSnd (cSnd (Tryd.f46.body.getD .skip)), by kernel_rfl, ⟨by kernel_rfl, by kernel_rfl, by kernel_rfl⟩, ⟨by kernel_rfl, by kernel_rfl, by kernel_rfl⟩, ⟨22, by kernel_rfl, by kernel_rfl, by kernel_rfl⟩, by kernel_rfl, by kernel_rfl⟩ rfl rfl⟩
/-- transhipment/label.New -/
theorem l129 (mx : Int) : Lk mx (129, d129) := .inl ⟨Tryd.f17, ⟨rk, fun k => if [24, 25, 26, 38, 41, 47, 56, 128, 134, 135, 140, 143, 217, 246].contains k then .opn else .pure, .pure, false, 78, none⟩, by rw [show (km mx) 129 = 17 from by kernel_rfl]; exact Tryd.func17, link mx _ _ _ _ (by intro t h; cases h <;> rfl), by kernel_rfl⟩
/-- transhipment/label.name -/
theorem l130 (mx : Int) : Lk mx (130, d130) := .inl ⟨Tryd.f57, ⟨rk, fun k => if [24, 25, 26, 38, 41, 47, 56, 128, 134, 135, 140, 143, 217, 246].contains k then .opn else .pure, .pure, false, 78, none⟩, by rw [show (km mx) 130 = 57 from by kernel_rfl]; exact Tryd.func57, link mx _ _ _ _ (by intro t h; cases h <;> rfl), by kernel_rfl⟩
/-- transhipment/label.value -/
theorem l131 (mx : Int) : Lk mx (131, d131) := .inl ⟨Tryd.f58, ⟨rk, fun k => if [24, 25, 26, 38, 41, 47, 56, 128, 134, 135, 140, 143, 217, 246].contains k then .opn else .pure, .pure, false, 78, none⟩, by rw [show (km mx) 131 = 58 from by kernel_rfl]; exact Tryd.func58, link mx _ _ _ _ (by intro t h; cases h <;> rfl), by kernel_rfl⟩
/-- slices.ContainsFunc[[]transhipment/api.Label,transhipment/api.Label] -/
theorem l132 (mx : Int) : Lk mx (132, d132) := .inl ⟨Tryd.f35, ⟨rk, fun k => if [24, 25, 26, 38, 41, 47, 56, 128, 134, 135, 140, 143, 217, 246].contains k then .opn else .pure, .pure, false, 78, none⟩, by rw [show (km mx) 132 = 35 from by kernel_rfl]; exact Tryd.func35, link mx _ _ _ _ (by intro t h; cases h <;> rfl), by kernel_rfl⟩
/-- transhipment/label.New$1 -/
theorem l133 (mx : Int) : Lk mx (133, d133) := .inl ⟨Tryd.f36, ⟨rk, fun k => if [24, 25, 26, 38, 41, 47, 56, 128, 134, 135, 140, 143, 217, 246].contains k then .opn else .pure, .pure, false, 78, none⟩, by rw [show (km mx) 133 = 36 from by kernel_rfl]; exact Tryd.func36, link mx _ _ _ _ (by intro t h; cases h <;> rfl), by kernel_rfl⟩
/-- transhipment/label.marks -/
theorem l134 (mx : Int) : Lk mx (134, d134) := .inl ⟨Tryd.f31, ⟨rk, fun k => if [24, 25, 26, 38, 41, 47, 56, 128, 134, 135, 140, 143, 217, 246].contains k then .opn else .pure, .pure, true, 78, none⟩, by rw [show (km mx) 134 = 31 from by kernel_rfl]; exact Tryd.func31, link mx _ _ _ _ (by intro t h; cases h <;> rfl), by kernel_rfl⟩
/-- slices.SortFunc[[]transhipment/label.mark,transhipment/label.mark] -/
theorem l135 (mx : Int) : Lk mx (135, d135) := .inl ⟨Tryd.f37, ⟨rk, fun k => if [24, 25, 26, 38, 41, 47, 56, 128, 134, 135, 140, 143, 217, 246].contains k then .opn else .pure, .pure, false, 78, none⟩, by rw [show (km mx) 135 = 37 from by kernel_rfl]; exact Tryd.func37, link mx _ _ _ _ (by intro t h; cases h <;> rfl), by kernel_rfl⟩
/-- (transhipment/label.mark).compare -/
theorem l136 (mx : Int) : Lk mx (136, d136) := .inl ⟨Tryd.f38, ⟨rk, fun k => if [24, 25, 26, 38, 41, 47, 56, 128, 134, 135, 140, 143, 217, 246].contains k then .opn else .pure, .pure, false, 78, none⟩, by rw [show (km mx) 136 = 38 from by kernel_rfl]; exact Tryd.func38, link mx _ _ _ _ (by intro t h; cases h <;> rfl), by kernel_rfl⟩
/-- transhipment/label.labels -/
theorem l137 (mx : Int) : Lk mx (137, d137) := .inl ⟨Tryd.f39, ⟨rk, fun k => if [24, 25, 26, 38, 41, 47, 56, 128, 134, 135, 140, 143, 217, 246].contains k then .opn else .pure, .pure, false, 78, none⟩, by rw [show (km mx) 137 = 39 from by kernel_rfl]; exact Tryd.func39, link mx _ _ _ _ (by intro t h; cases h <;> rfl), by kernel_rfl⟩
/-- transhipment/label.letter -/
theorem l138 (mx : Int) : Lk mx (138, d138) := .inl ⟨Tryd.f68, ⟨rk, fun k => if [24, 25, 26, 38, 41, 47, 56, 128, 134, 135, 140, 143, 217, 246].contains k then .opn else .pure, .pure, false, 78, none⟩, by rw [show (km mx) 138 = 68 from by kernel_rfl]; exact Tryd.func68, link mx _ _ _ _ (by intro t h; cases h <;> rfl), by kernel_rfl⟩
/-- transhipment/label.value$1 -/
theorem l139 (mx : Int) : Lk mx (139, d139) := .inl ⟨Tryd.f70, ⟨rk, fun k => if [24, 25, 26, 38, 41, 47, 56, 128, 134, 135, 140, 143, 217, 246].contains k then .opn else .pure, .pure, false, 78, none⟩, by rw [show (km mx) 139 = 70 from by kernel_rfl]; exact Tryd.func70, link mx _ _ _ _ (by intro t h; cases h <;> rfl), by kernel_rfl⟩
/-- slices.pdqsortCmpFunc[transhipment/label.mark] -/
theorem l140 (mx : Int) : Lk mx (140, d140) := .inl ⟨Tryd.f59, ⟨rk, fun k => if [24, 25, 26, 38, 41, 47, 56, 128, 134, 135, 140, 143, 217, 246].contains k then .opn else .pure, .pure, false, 78, none⟩, by rw [show (km mx) 140 = 59 from by kernel_rfl]; exact Tryd.func59, link mx _ _ _ _ (by intro t h; cases h <;> rfl), by kernel_rfl⟩
/-- math/bits.Len -/
theorem l141 (mx : Int) : Lk mx (141, x141) := .inl ⟨Tryd.f60, ⟨rk, fun k => if [24, 25, 26, 38, 41, 47, 56, 128, 134, 135, 140, 143, 217, 246].contains k then .opn else .pure, .pure, false, 78, none⟩, by rw [show (km mx) 141 = 60 from by kernel_rfl]; exact Tryd.func60, link mx _ _ _ _ (by intro t h; cases h <;> rfl), by kernel_rfl⟩
/-- strings.Compare -/
theorem l142 (mx : Int) : Lk mx (142, d142) := .inl ⟨Tryd.f61, ⟨rk, fun k => if [24, 25, 26, 38, 41, 47, 56, 128, 134, 135, 140, 143, 217, 246].contains k then .opn else .pure, .pure, false, 78, none⟩, by rw [show (km mx) 142 = 61 from by kernel_rfl]; exact Tryd.func61, link mx _ _ _ _ (by intro t h; cases h <;> rfl), by kernel_rfl⟩
/-- slices.insertionSortCmpFunc[transhipment/label.mark] -/
theorem l143 (mx : Int) : Lk mx (143, d143) := .inl ⟨Tryd.f71, ⟨rk, fun k => if [24, 25, 26, 38, 41, 47, 56, 128, 134, 135, 140, 143, 217, 246].contains k then .opn else .pure, .pure, false, 78, none⟩, by rw [show (km mx) 143 = 71 from by kernel_rfl]; exact Tryd.func71, link mx _ _ _ _ (by intro t h; cases h <;> rfl), by kernel_rfl⟩
/-- math/bits.Len32 -/
theorem l151 (mx : Int) : Lk mx (151, x151) := .inl ⟨Tryd.f79, ⟨rk, fun k => if [24, 25, 26, 38, 41, 47, 56, 128, 134, 135, 140, 143, 217, 246].contains k then .opn else .pure, .pure, false, 78, none⟩, by rw [show (km mx) 151 = 79 from by kernel_rfl]; exact Tryd.func79, link mx _ _ _ _ (by intro t h; cases h <;> rfl), by kernel_rfl⟩
/-- math/bits.Len64 -/
theorem l152 (mx : Int) : Lk mx (152, x152) := .inl ⟨Tryd.f80, ⟨rk, fun k => if [24, 25, 26, 38, 41, 47, 56, 128, 134, 135, 140, 143, 217, 246].contains k then .opn else .pure, .pure, false, 78, none⟩, by rw [show (km mx) 152 = 80 from by kernel_rfl]; exact Tryd.func80, link mx _ _ _ _ (by intro t h; cases h <;> rfl), by kernel_rfl⟩
theorem cmp_calls (a b : ByteArray) (w : World) : Calls Tryd.prog 81 #[.string a, .string b] w fun e w' => e = .returned (.int .i64 (Lib.compareBytes a.data.toList b.data.toList)) ∧ w' = w := by
  go_enter Tryd.func81, Tryd.ntmps81
  go_wp2
  rw [run_callFunc_extern Tryd.func94 (by kernel_rfl) (by kernel_rfl) (by kernel_rfl) (e := Extern.BytealgCompare.compare) (by kernel_rfl), Lib.run_compareString]
  simp only [Result.andThen]
  rw [Oper.upon_value]
  go_wp2
  go_ret
  exact ⟨rfl, rfl⟩
/-- internal/bytealg.CompareString -/
theorem l153 (mx : Int) : Lk mx (153, Def.prim (cmpF)) := .inr ⟨_, rfl, cmp_prim ⟨Tryd.f81, by rw [show (km mx) 153 = 81 from by kernel_rfl]; exact Tryd.func81, by kernel_rfl, by decide⟩ (by rw [show (km mx) 153 = 81 from by kernel_rfl]; exact cmp_calls)⟩
/-- (transhipment/label.mark).text -/
theorem l176 (mx : Int) : Lk mx (176, d176) := .inl ⟨Tryd.f32, ⟨rk, fun k => if [24, 25, 26, 38, 41, 47, 56, 128, 134, 135, 140, 143, 217, 246].contains k then .opn else .pure, .pure, false, 78, none⟩, by rw [show (km mx) 176 = 32 from by kernel_rfl]; exact Tryd.func32, link mx _ _ _ _ (by intro t h; cases h <;> rfl), by kernel_rfl⟩
/-- transhipment/transhipmentref03.With -/
theorem l191 (mx : Int) : Lk mx (191, d191) := .inl ⟨Tryd.f27, ⟨rk, fun k => if [24, 25, 26, 38, 41, 47, 56, 128, 134, 135, 140, 143, 217, 246].contains k then .opn else .pure, .pure, false, 78, none⟩, by rw [show (km mx) 191 = 27 from by kernel_rfl]; exact Tryd.func27, link mx _ _ _ _ (by intro t h; cases h <;> rfl), by kernel_rfl⟩
/-- transhipment/transhipmentref03.Same -/
theorem l192 (mx : Int) : Lk mx (192, d192) := .inl ⟨Tryd.f13, ⟨rk, fun k => if [24, 25, 26, 38, 41, 47, 56, 128, 134, 135, 140, 143, 217, 246].contains k then .opn else .pure, .pure, false, 78, none⟩, by rw [show (km mx) 192 = 13 from by kernel_rfl]; exact Tryd.func13, link mx _ _ _ _ (by intro t h; cases h <;> rfl), by kernel_rfl⟩
/-- transhipment/transhipmentref03.Get -/
theorem l200 (mx : Int) : Lk mx (200, d200) := .inl ⟨Tryd.f21, ⟨rk, fun k => if [24, 25, 26, 38, 41, 47, 56, 128, 134, 135, 140, 143, 217, 246].contains k then .opn else .pure, .pure, false, 78, none⟩, by rw [show (km mx) 200 = 21 from by kernel_rfl]; exact Tryd.func21, link mx _ _ _ _ (by intro t h; cases h <;> rfl), by kernel_rfl⟩
/-- transhipment/transhipmentref03.Sorted -/
theorem l201 (mx : Int) : Lk mx (201, d201) := .inl ⟨Tryd.f42, ⟨rk, fun k => if [24, 25, 26, 38, 41, 47, 56, 128, 134, 135, 140, 143, 217, 246].contains k then .opn else .pure, .pure, false, 78, none⟩, by rw [show (km mx) 201 = 42 from by kernel_rfl]; exact Tryd.func42, link mx _ _ _ _ (by intro t h; cases h <;> rfl), by kernel_rfl⟩
/-- transhipment/label.Text -/
theorem l202 (mx : Int) : Lk mx (202, d202) := .inl ⟨Tryd.f15, ⟨rk, fun k => if [24, 25, 26, 38, 41, 47, 56, 128, 134, 135, 140, 143, 217, 246].contains k then .opn else .pure, .pure, false, 78, none⟩, by rw [show (km mx) 202 = 15 from by kernel_rfl]; exact Tryd.func15, link mx _ _ _ _ (by intro t h; cases h <;> rfl), by kernel_rfl⟩
/-- transhipment/label.Parse -/
theorem l204 (mx : Int) : Lk mx (204, d204) := .inl ⟨Tryd.f10, ⟨rk, fun k => if [24, 25, 26, 38, 41, 47, 56, 128, 134, 135, 140, 143, 217, 246].contains k then .opn else .pure, .pure, false, 78, none⟩, by rw [show (km mx) 204 = 10 from by kernel_rfl]; exact Tryd.func10, link mx _ _ _ _ (by intro t h; cases h <;> rfl), by kernel_rfl⟩
/-- transhipment/transhipmentref03.Parse -/
theorem l208 (mx : Int) : Lk mx (208, d208) := .inl ⟨Tryd.f11, ⟨rk, fun k => if [24, 25, 26, 38, 41, 47, 56, 128, 134, 135, 140, 143, 217, 246].contains k then .opn else .pure, .pure, false, 78, none⟩, by rw [show (km mx) 208 = 11 from by kernel_rfl]; exact Tryd.func11, link mx _ _ _ _ (by intro t h; cases h <;> rfl), by kernel_rfl⟩
/-- transhipment/transhipmentref03.Text -/
theorem l211 (mx : Int) : Lk mx (211, d211) := .inl ⟨Tryd.f22, ⟨rk, fun k => if [24, 25, 26, 38, 41, 47, 56, 128, 134, 135, 140, 143, 217, 246].contains k then .opn else .pure, .pure, false, 78, none⟩, by rw [show (km mx) 211 = 22 from by kernel_rfl]; exact Tryd.func22, link mx _ _ _ _ (by intro t h; cases h <;> rfl), by kernel_rfl⟩
/-- transhipment/label.one -/
theorem l213 (mx : Int) : Lk mx (213, d213) := .inl ⟨Tryd.f29, ⟨rk, fun k => if [24, 25, 26, 38, 41, 47, 56, 128, 134, 135, 140, 143, 217, 246].contains k then .opn else .pure, .pure, false, 78, none⟩, by rw [show (km mx) 213 = 29 from by kernel_rfl]; exact Tryd.func29, link mx _ _ _ _ (by intro t h; cases h <;> rfl), by kernel_rfl⟩
/-- transhipment/transhipmentref03.one -/
theorem l214 (mx : Int) : Lk mx (214, d214) := .inl ⟨Tryd.f30, ⟨rk, fun k => if [24, 25, 26, 38, 41, 47, 56, 128, 134, 135, 140, 143, 217, 246].contains k then .opn else .pure, .pure, false, 78, none⟩, by rw [show (km mx) 214 = 30 from by kernel_rfl]; exact Tryd.func30, link mx _ _ _ _ (by intro t h; cases h <;> rfl), by kernel_rfl⟩
/-- strings.ReplaceAll -/
theorem l215 (mx : Int) : Lk mx (215, Def.prim (replF)) := .inr ⟨_, rfl, repl_prim ⟨Tryd.f54, by rw [show (km mx) 215 = 54 from by kernel_rfl]; exact Tryd.func54, by kernel_rfl, by decide⟩ (show (km mx).G _ _ from ⟨rfl, rfl⟩) (by rw [show (km mx) 215 = 54 from by kernel_rfl]; exact fun s old new w h1 h2 h3 h4 => Tryd.strings_ReplaceAll s old new mx w h1 h2 h3 h4)⟩
/-- (*strings.Builder).WriteByte -/
theorem l217 (mx : Int) : Lk mx (217, d217) := .inl ⟨Tryd.f53, ⟨rk, fun k => if [24, 25, 26, 38, 41, 47, 56, 128, 134, 135, 140, 143, 217, 246].contains k then .opn else .pure, .pure, false, 78, some 5⟩, by rw [show (km mx) 217 = 53 from by kernel_rfl]; exact Tryd.func53, link mx _ _ _ _ (by intro t h; cases h <;> rfl), by kernel_rfl⟩
/-- transhipment/transhipmentlaw03.LabelReads -/
theorem l233 (mx : Int) : Lk mx (233, d233) := .inl ⟨Tryd.f3, ⟨rk, fun k => if [24, 25, 26, 38, 41, 47, 56, 128, 134, 135, 140, 143, 217, 246].contains k then .opn else .pure, .pure, false, 78, none⟩, by rw [show (km mx) 233 = 3 from by kernel_rfl]; exact Tryd.func3, link mx _ _ _ _ (by intro t h; cases h <;> rfl), by kernel_rfl⟩
/-- transhipment/transhipmentlaw03.LabelBack -/
theorem l234 (mx : Int) : Lk mx (234, d234) := .inl ⟨Tryd.f4, ⟨rk, fun k => if [24, 25, 26, 38, 41, 47, 56, 128, 134, 135, 140, 143, 217, 246].contains k then .opn else .pure, .pure, false, 78, none⟩, by rw [show (km mx) 234 = 4 from by kernel_rfl]; exact Tryd.func4, link mx _ _ _ _ (by intro t h; cases h <;> rfl), by kernel_rfl⟩
/-- transhipment/transhipmentlaw03.LabelSets -/
theorem l235 (mx : Int) : Lk mx (235, d235) := .inl ⟨Tryd.f5, ⟨rk, fun k => if [24, 25, 26, 38, 41, 47, 56, 128, 134, 135, 140, 143, 217, 246].contains k then .opn else .pure, .pure, false, 78, none⟩, by rw [show (km mx) 235 = 5 from by kernel_rfl]; exact Tryd.func5, link mx _ _ _ _ (by intro t h; cases h <;> rfl), by kernel_rfl⟩
/-- transhipment/transhipmentlaw03.alive -/
theorem l240 (mx : Int) : Lk mx (240, x240) := .inl ⟨Tryd.f12, ⟨rk, fun k => if [24, 25, 26, 38, 41, 47, 56, 128, 134, 135, 140, 143, 217, 246].contains k then .opn else .pure, .pure, false, 78, none⟩, by rw [show (km mx) 240 = 12 from by kernel_rfl]; exact Tryd.func12, link mx _ _ _ _ (by intro t h; cases h <;> rfl), by kernel_rfl⟩
/-- transhipment/transhipmentlaw03.few -/
theorem l241 (mx : Int) : Lk mx (241, x241) := .inl ⟨Tryd.f14, ⟨rk, fun k => if [24, 25, 26, 38, 41, 47, 56, 128, 134, 135, 140, 143, 217, 246].contains k then .opn else .pure, .pure, false, 78, none⟩, by rw [show (km mx) 241 = 14 from by kernel_rfl]; exact Tryd.func14, link mx _ _ _ _ (by intro t h; cases h <;> rfl), by kernel_rfl⟩
/-- transhipment/transhipmentref03.New -/
theorem l242 (mx : Int) : Lk mx (242, d242) := .inl ⟨Tryd.f18, ⟨rk, fun k => if [24, 25, 26, 38, 41, 47, 56, 128, 134, 135, 140, 143, 217, 246].contains k then .opn else .pure, .pure, false, 78, none⟩, by rw [show (km mx) 242 = 18 from by kernel_rfl]; exact Tryd.func18, link mx _ _ _ _ (by intro t h; cases h <;> rfl), by kernel_rfl⟩
/-- transhipment/transhipmentlaw03.names -/
theorem l243 (mx : Int) : Lk mx (243, d243) := .inl ⟨Tryd.f23, ⟨rk, fun k => if [24, 25, 26, 38, 41, 47, 56, 128, 134, 135, 140, 143, 217, 246].contains k then .opn else .pure, .pure, false, 78, none⟩, by rw [show (km mx) 243 = 23 from by kernel_rfl]; exact Tryd.func23, link mx _ _ _ _ (by intro t h; cases h <;> rfl), by kernel_rfl⟩
/-- transhipment/transhipmentref03.Keep -/
theorem l245 (mx : Int) : Lk mx (245, d245) := .inl ⟨Tryd.f26, ⟨rk, fun k => if [24, 25, 26, 38, 41, 47, 56, 128, 134, 135, 140, 143, 217, 246].contains k then .opn else .pure, .pure, false, 78, none⟩, by rw [show (km mx) 245 = 26 from by kernel_rfl]; exact Tryd.func26, link mx _ _ _ _ (by intro t h; cases h <;> rfl), by kernel_rfl⟩
/-- transhipment/label.Keep$1 -/
theorem l247 (mx : Int) : Lk mx (247, d247) := .inl ⟨Tryd.f48, ⟨rk, fun k => if [24, 25, 26, 38, 41, 47, 56, 128, 134, 135, 140, 143, 217, 246].contains k then .opn else .pure, .pure, false, 78, none⟩, by rw [show (km mx) 247 = 48 from by kernel_rfl]; exact Tryd.func48, link mx _ _ _ _ (by intro t h; cases h <;> rfl), by kernel_rfl⟩
theorem linked (mx : Int) : Linked (km mx) Tryd.prog env := fun k D h => by
  have hm := lookup_mem h
  have hall : ∀ p ∈ en, Lk mx p := List.forall_mem_cons.2 ⟨l23 mx , List.forall_mem_cons.2 ⟨l24 mx , List.forall_mem_cons.2 ⟨l26 mx , List.forall_mem_cons.2 ⟨l37 mx , List.forall_mem_cons.2 ⟨l39 mx , List.forall_mem_cons.2 ⟨l47 mx , List.forall_mem_cons.2 ⟨l50 mx , List.forall_mem_cons.2 ⟨l54 mx , List.forall_mem_cons.2 ⟨l57 mx , List.forall_mem_cons.2 ⟨l63 mx , List.forall_mem_cons.2 ⟨l67 mx , List.forall_mem_cons.2 ⟨l71 mx , List.forall_mem_cons.2 ⟨l85 mx , List.forall_mem_cons.2 ⟨l89 mx , List.forall_mem_cons.2 ⟨l110 mx , List.forall_mem_cons.2 ⟨l113 mx , List.forall_mem_cons.2 ⟨l114 mx , List.forall_mem_cons.2 ⟨l116 mx , List.forall_mem_cons.2 ⟨l117 mx , List.forall_mem_cons.2 ⟨l118 mx , List.forall_mem_cons.2 ⟨l119 mx , List.forall_mem_cons.2 ⟨l120 mx , List.forall_mem_cons.2 ⟨l121 mx , List.forall_mem_cons.2 ⟨l122 mx , List.forall_mem_cons.2 ⟨l128 mx , List.forall_mem_cons.2 ⟨l129 mx , List.forall_mem_cons.2 ⟨l130 mx , List.forall_mem_cons.2 ⟨l131 mx , List.forall_mem_cons.2 ⟨l132 mx , List.forall_mem_cons.2 ⟨l133 mx , List.forall_mem_cons.2 ⟨l134 mx , List.forall_mem_cons.2 ⟨l135 mx , List.forall_mem_cons.2 ⟨l136 mx , List.forall_mem_cons.2 ⟨l137 mx , List.forall_mem_cons.2 ⟨l138 mx , List.forall_mem_cons.2 ⟨l139 mx , List.forall_mem_cons.2 ⟨l140 mx , List.forall_mem_cons.2 ⟨l141 mx , List.forall_mem_cons.2 ⟨l142 mx , List.forall_mem_cons.2 ⟨l143 mx , List.forall_mem_cons.2 ⟨l151 mx , List.forall_mem_cons.2 ⟨l152 mx , List.forall_mem_cons.2 ⟨l153 mx , List.forall_mem_cons.2 ⟨l176 mx , List.forall_mem_cons.2 ⟨l191 mx , List.forall_mem_cons.2 ⟨l192 mx , List.forall_mem_cons.2 ⟨l200 mx , List.forall_mem_cons.2 ⟨l201 mx , List.forall_mem_cons.2 ⟨l202 mx , List.forall_mem_cons.2 ⟨l204 mx , List.forall_mem_cons.2 ⟨l208 mx , List.forall_mem_cons.2 ⟨l211 mx , List.forall_mem_cons.2 ⟨l213 mx , List.forall_mem_cons.2 ⟨l214 mx , List.forall_mem_cons.2 ⟨l215 mx , List.forall_mem_cons.2 ⟨l217 mx , List.forall_mem_cons.2 ⟨l233 mx , List.forall_mem_cons.2 ⟨l234 mx , List.forall_mem_cons.2 ⟨l235 mx , List.forall_mem_cons.2 ⟨l240 mx , List.forall_mem_cons.2 ⟨l241 mx , List.forall_mem_cons.2 ⟨l242 mx , List.forall_mem_cons.2 ⟨l243 mx , List.forall_mem_cons.2 ⟨l245 mx , List.forall_mem_cons.2 ⟨l247 mx , fun p hp => by simp at hp⟩⟩⟩⟩⟩⟩⟩⟩⟩⟩⟩⟩⟩⟩⟩⟩⟩⟩⟩⟩⟩⟩⟩⟩⟩⟩⟩⟩⟩⟩⟩⟩⟩⟩⟩⟩⟩⟩⟩⟩⟩⟩⟩⟩⟩⟩⟩⟩⟩⟩⟩⟩⟩⟩⟩⟩⟩⟩⟩⟩⟩⟩⟩⟩⟩
  exact hall _ hm
theorem has_la0 : Has la0 env := by
  unfold Has la0
  repeat' first | (refine List.forall_mem_cons.2 ⟨by kernel_rfl, ?_⟩) | (intro p hp; simp at hp; done)
theorem has_lbw : Has lbw env := by
  unfold Has lbw
  repeat' first | (refine List.forall_mem_cons.2 ⟨by kernel_rfl, ?_⟩) | (intro p hp; simp at hp; done)
theorem has_lbs : Has lbs env := by
  unfold Has lbs
  repeat' first | (refine List.forall_mem_cons.2 ⟨by kernel_rfl, ?_⟩) | (intro p hp; simp at hp; done)
theorem has_lca : Has lca env := by
  unfold Has lca
  repeat' first | (refine List.forall_mem_cons.2 ⟨by kernel_rfl, ?_⟩) | (intro p hp; simp at hp; done)
theorem has_lcb : Has lcb env := by
  unfold Has lcb
  repeat' first | (refine List.forall_mem_cons.2 ⟨by kernel_rfl, ?_⟩) | (intro p hp; simp at hp; done)
theorem has_lbb : Has lbb env := by
  unfold Has lbb
  repeat' first | (refine List.forall_mem_cons.2 ⟨by kernel_rfl, ?_⟩) | (intro p hp; simp at hp; done)
theorem has_lcc : Has lcc env := by
  unfold Has lcc
  repeat' first | (refine List.forall_mem_cons.2 ⟨by kernel_rfl, ?_⟩) | (intro p hp; simp at hp; done)
theorem has_lc : Has lc env := by
  unfold Has lc
  repeat' first | (refine List.forall_mem_cons.2 ⟨by kernel_rfl, ?_⟩) | (intro p hp; simp at hp; done)
theorem has_ll0 : Has ll0 env := by
  unfold Has ll0
  repeat' first | (refine List.forall_mem_cons.2 ⟨by kernel_rfl, ?_⟩) | (intro p hp; simp at hp; done)
theorem has_lm0 : Has lm0 env := by
  unfold Has lm0
  repeat' first | (refine List.forall_mem_cons.2 ⟨by kernel_rfl, ?_⟩) | (intro p hp; simp at hp; done)
theorem has_ln0 : Has ln0 env := by
  unfold Has ln0
  repeat' first | (refine List.forall_mem_cons.2 ⟨by kernel_rfl, ?_⟩) | (intro p hp; simp at hp; done)
theorem has_lo : Has lo env := by
  unfold Has lo
  repeat' first | (refine List.forall_mem_cons.2 ⟨by kernel_rfl, ?_⟩) | (intro p hp; simp at hp; done)
theorem has_lp : Has lp env := by
  unfold Has lp
  repeat' first | (refine List.forall_mem_cons.2 ⟨by kernel_rfl, ?_⟩) | (intro p hp; simp at hp; done)
theorem has_lq0 : Has lq0 env := by
  unfold Has lq0
  repeat' first | (refine List.forall_mem_cons.2 ⟨by kernel_rfl, ?_⟩) | (intro p hp; simp at hp; done)
theorem has_lr : Has lr env := by
  unfold Has lr
  repeat' first | (refine List.forall_mem_cons.2 ⟨by kernel_rfl, ?_⟩) | (intro p hp; simp at hp; done)
theorem has_lu : Has lu env := by
  unfold Has lu
  repeat' first | (refine List.forall_mem_cons.2 ⟨by kernel_rfl, ?_⟩) | (intro p hp; simp at hp; done)
theorem has_lw : Has lw env := by
  unfold Has lw
  repeat' first | (refine List.forall_mem_cons.2 ⟨by kernel_rfl, ?_⟩) | (intro p hp; simp at hp; done)
theorem has_lx : Has lx env := by
  unfold Has lx
  repeat' first | (refine List.forall_mem_cons.2 ⟨by kernel_rfl, ?_⟩) | (intro p hp; simp at hp; done)
theorem has_lcd : Has lcd env := by
  unfold Has lcd
  repeat' first | (refine List.forall_mem_cons.2 ⟨by kernel_rfl, ?_⟩) | (intro p hp; simp at hp; done)
theorem has_lce : Has lce env := by
  unfold Has lce
  repeat' first | (refine List.forall_mem_cons.2 ⟨by kernel_rfl, ?_⟩) | (intro p hp; simp at hp; done)
theorem has_lcf : Has lcf env := by
  unfold Has lcf
  repeat' first | (refine List.forall_mem_cons.2 ⟨by kernel_rfl, ?_⟩) | (intro p hp; simp at hp; done)
theorem has_lcg : Has lcg env := by
  unfold Has lcg
  repeat' first | (refine List.forall_mem_cons.2 ⟨by kernel_rfl, ?_⟩) | (intro p hp; simp at hp; done)
theorem has_lch : Has lch env := by
  unfold Has lch
  repeat' first | (refine List.forall_mem_cons.2 ⟨by kernel_rfl, ?_⟩) | (intro p hp; simp at hp; done)
end Go.Proofs.YtjijlmfhnkipmaaDoorPv
