/-
Own text of the proof.
-/
import Derived.Test.YtemoboghbdcjkaaDoorPkStoreTearsB
import Derived.Test.YtemoboghbdcjkaaDoorPvPb
import Derived.Test.YtemoboghbdcjkaaDoorShelf
import Derived.Test.YtemoboghbdcjkaaDoorPvPe
import Derived.Test.YtemoboghbdcjkaaDoorPvP
import Derived.Test.YtemoboghbdcjkaaDoorProg
import Derived.KernelRfl
import Derived.WalkKit
import Derived.Lib.Bytealg
import Derived.Lib.Walk
import Derived.Shelf.Strings.SlTrimAscii
namespace Go.Proofs.YtemoboghbdcjkaaDoorPv
open Go Go.Proofs
set_option maxRecDepth 100000
set_option maxHeartbeats 4000000
def x254 : Def := (.code 0 [.tmp 0] (.seq (.rg false [⟨.some 0, .none, .mv (.c (.bool false))⟩]) (.seq (.rg false [⟨.some 7, .none, .build (.agg #[.slice .none 0 0]) []⟩, ⟨.some 8, .none, .build (.agg #[.int .i64 0, .string ⟨#[]⟩, .string ⟨#[]⟩]) [(0, (1, .c (.int .i64 1))), (1, (1, .c (.string ⟨#[97]⟩))), (2, (1, .c (.string ⟨#[97, 98, 99]⟩)))]⟩, ⟨.some 9, .none, .call 255 .pure [.t 7, .t 8]⟩, ⟨.some 6, .none, .mv (.t 9)⟩, ⟨.some 10, .none, .ext (.t 6) 0⟩, ⟨.some 11, .none, .ext (.t 6) 1⟩, ⟨.some 1, .none, .box (.c (.agg #[.slice .none 0 0]))⟩, ⟨.none, .none, .st 1 (.t 1) (.t 10)⟩, ⟨.some 2, .none, .mv (.t 11)⟩]) (.seq (.rg false [⟨.some 13, .none, .ld (.some 1) (.t 1)⟩, ⟨.some 14, .none, .bsl 1 (.int .i64 0) 1 [(0, .c (.int .i64 2))]⟩, ⟨.some 15, .none, .call 258 .opn [.t 13, .t 14]⟩, ⟨.some 12, .none, .mv (.t 15)⟩, ⟨.some 16, .none, .ext (.t 12) 0⟩, ⟨.some 17, .none, .ext (.t 12) 1⟩, ⟨.none, .none, .st 1 (.t 1) (.t 16)⟩, ⟨.some 3, .none, .mv (.t 17)⟩]) (.seq (.rg false [⟨.some 19, .none, .ld (.some 1) (.t 1)⟩, ⟨.some 20, .none, .call 259 .pure [.t 19, .c (.string ⟨#[97]⟩)]⟩, ⟨.some 18, .none, .mv (.t 20)⟩, ⟨.some 21, .none, .ext (.t 18) 0⟩, ⟨.some 22, .none, .ext (.t 18) 1⟩, ⟨.some 4, .none, .mv (.t 21)⟩, ⟨.some 5, .none, .mv (.t 22)⟩]) (.seq (.rg false [⟨.some 23, .none, .mv (.t 2)⟩, ⟨.some 24, .none, .bin .eql (.t 23) (.c (.int .i64 0))⟩, ⟨.some 25, .none, .mv (.t 24)⟩, ⟨.some 26, .some (25, true), .mv (.t 3)⟩, ⟨.some 27, .some (25, true), .bin .eql (.t 26) (.c (.int .i64 0))⟩, ⟨.some 28, .none, .pick (.t 25) (.t 27) (.c (.bool false))⟩, ⟨.some 29, .none, .mv (.t 28)⟩, ⟨.some 30, .some (29, true), .mv (.t 5)⟩, ⟨.some 31, .some (29, true), .bin .eql (.t 30) (.c (.int .i64 0))⟩, ⟨.some 32, .none, .pick (.t 29) (.t 31) (.c (.bool false))⟩, ⟨.some 33, .none, .mv (.t 32)⟩, ⟨.some 34, .some (33, true), .mv (.t 4)⟩, ⟨.some 35, .some (33, true), .bin .eql (.t 34) (.c (.string ⟨#[97, 98]⟩))⟩, ⟨.some 36, .none, .pick (.t 33) (.t 35) (.c (.bool false))⟩, ⟨.some 0, .none, .mv (.t 36)⟩]) .ret))))))
def rkl : List (Nat × Nat) := [(3, 248), (4, 249), (5, 250), (6, 251), (7, 252), (8, 253), (9, 254), (10, 255), (11, 256), (12, 257), (13, 258), (14, 259), (15, 260), (16, 261), (17, 262), (18, 36), (19, 263), (20, 264), (21, 265), (22, 266), (23, 267), (24, 268), (25, 89), (26, 269), (27, 270), (28, 271), (29, 272), (30, 273), (31, 274), (32, 9), (33, 275), (34, 276), (35, 142), (36, 277), (37, 278), (38, 279), (39, 280), (40, 27), (41, 28), (42, 29), (43, 153), (44, 281), (45, 282), (46, 283), (47, 48), (48, 49), (49, 50), (50, 51), (51, 52), (52, 53), (53, 159), (54, 284), (55, 285), (56, 66), (57, 67), (58, 37), (59, 68), (60, 69), (61, 70), (62, 286), (63, 85), (64, 73), (65, 86), (66, 74), (67, 75), (68, 87), (69, 76), (70, 88), (71, 287), (72, 90), (73, 78), (74, 91), (75, 95), (76, 92), (77, 96), (78, 97), (79, 98), (80, 99), (81, 82), (82, 81), (83, 80), (84, 93), (85, 161), (86, 162), (87, 163), (88, 164), (89, 165), (90, 166), (91, 167), (92, 168), (93, 169), (94, 170), (95, 171), (96, 172), (97, 173), (98, 174), (99, 175), (100, 177)]
def rk : Nat → Option Nat := fun i => List.lookup i rkl
def kml : List (Nat × Nat) := [(9, 32), (27, 40), (28, 41), (29, 42), (36, 18), (37, 58), (48, 47), (49, 48), (50, 49), (51, 50), (52, 51), (53, 52), (66, 56), (67, 57), (68, 59), (69, 60), (70, 61), (73, 64), (74, 66), (75, 67), (76, 69), (78, 73), (80, 83), (81, 82), (82, 81), (85, 63), (86, 65), (87, 68), (88, 70), (89, 25), (90, 72), (91, 74), (92, 76), (93, 84), (95, 75), (96, 77), (97, 78), (98, 79), (99, 80), (142, 35), (153, 43), (159, 53), (161, 85), (162, 86), (163, 87), (164, 88), (165, 89), (166, 90), (167, 91), (168, 92), (169, 93), (170, 94), (171, 95), (172, 96), (173, 97), (174, 98), (175, 99), (177, 100), (248, 3), (249, 4), (250, 5), (251, 6), (252, 7), (253, 8), (254, 9), (255, 10), (256, 11), (257, 12), (258, 13), (259, 14), (260, 15), (261, 16), (262, 17), (263, 19), (264, 20), (265, 21), (266, 22), (267, 23), (268, 24), (269, 26), (270, 27), (271, 28), (272, 29), (273, 30), (274, 31), (275, 33), (276, 34), (277, 36), (278, 37), (279, 38), (280, 39), (281, 44), (282, 45), (283, 46), (284, 54), (285, 55), (286, 62), (287, 71)]
def kmf (k : Nat) : Nat := (List.lookup k kml).getD 0
def km : Km := ⟨kmf, fun _ _ => False, 999999, 5, fun _ => True, fun _ _ _ _ => trivial⟩
theorem lookup_mem {α : Type} {l : List (Nat × α)} {i : Nat} {k : α} (h : List.lookup i l = some k) : (i, k) ∈ l := by
  induction l with
  | nil => cases h
  | cons p r ih =>
    obtain ⟨a, b⟩ := p
    simp only [List.lookup] at h
    split at h
    · rename_i he
      simp only [Option.some.injEq] at h
      subst h
      simp only [beq_iff_eq] at he
      subst he
      exact List.mem_cons_self
    · exact List.mem_cons_of_mem _ (ih h)
theorem km_all : rkl.all (fun p => kmf p.2 == p.1) = true := by kernel_rfl
theorem link (md : Nat → Mode) (vm : Mode) (kw : Bool) (bb : Option TypeId) (hb : ∀ t, bb = some t → t = 5) : LinkOk km ⟨rk, md, vm, kw, 999999, bb⟩ := ⟨fun f k h => by
  have := List.all_eq_true.1 km_all _ (lookup_mem h)
  exact (by simpa using this : kmf k = f), rfl, fun t h => (hb t h).symm⟩
theorem mixed : Tryd.prog.follows .mixedOrders = true := by kernel_rfl
def en : List (Nat × Def) := [(9, d9), (27, (dConF 48)), (28, d28), (29, d29), (36, d36), (37, d37), (48, (dIdxF 3 (some 3))), (49, d49), (50, d50), (51, (dConF 68)), (52, d52), (53, d53), (66, d66), (67, d67), (68, (dIdxF 1 none)), (69, d69), (70, Def.prim (pureF trimV)), (85, d85), (142, d142), (153, Def.prim (cmpF)), (250, d250), (254, x254), (255, d255), (257, d257), (258, d258), (259, d259), (261, d261), (262, d262), (265, d265), (266, d266), (267, d267), (268, Def.prim (cloneF 3 48)), (269, d269), (270, d270), (271, d271), (275, (dBsF 3 (some 3))), (276, d276), (277, d277), (278, Def.prim (delF 3)), (279, d279), (281, Def.prim (insF 3 48)), (282, d282)]
def env (k : Nat) : Option Def := List.lookup k en
def Lk (p : Nat × Def) : Prop := (∃ fn A, Tryd.prog.funcs[km p.1]? = some fn ∧ LinkOk km A ∧ compF Tryd.prog A fn = some p.2) ∨ ∃ f, p.2 = .prim f ∧ PrimOk km Tryd.prog p.1 f
theorem l9 : Lk (9, d9) := .inl ⟨Tryd.f32, ⟨rk, fun k => if [268].contains k then .imp else if [24, 25, 26, 38, 41, 47, 56, 128, 134, 135, 140, 143, 217, 246, 267, 277, 278, 281].contains k then .opn else .pure, .pure, false, 999999, none⟩, by rw [show km 9 = 32 from by kernel_rfl]; exact Tryd.func32, link _ _ _ _ (by intro t h; cases h <;> rfl), by kernel_rfl⟩
theorem l27 : Lk (27, (dConF 48)) := .inl ⟨Tryd.f40, ⟨rk, fun k => if [268].contains k then .imp else if [24, 25, 26, 38, 41, 47, 56, 128, 134, 135, 140, 143, 217, 246, 267, 277, 278, 281].contains k then .opn else .pure, .pure, false, 999999, none⟩, by rw [show km 27 = 40 from by kernel_rfl]; exact Tryd.func40, link _ _ _ _ (by intro t h; cases h <;> rfl), by kernel_rfl⟩
theorem l28 : Lk (28, d28) := .inl ⟨Tryd.f41, ⟨rk, fun k => if [268].contains k then .imp else if [24, 25, 26, 38, 41, 47, 56, 128, 134, 135, 140, 143, 217, 246, 267, 277, 278, 281].contains k then .opn else .pure, .pure, false, 999999, none⟩, by rw [show km 28 = 41 from by kernel_rfl]; exact Tryd.func41, link _ _ _ _ (by intro t h; cases h <;> rfl), by kernel_rfl⟩
theorem l29 : Lk (29, d29) := .inl ⟨Tryd.f42, ⟨rk, fun k => if [268].contains k then .imp else if [24, 25, 26, 38, 41, 47, 56, 128, 134, 135, 140, 143, 217, 246, 267, 277, 278, 281].contains k then .opn else .pure, .pure, false, 999999, none⟩, by rw [show km 29 = 42 from by kernel_rfl]; exact Tryd.func42, link _ _ _ _ (by intro t h; cases h <;> rfl), by kernel_rfl⟩
theorem l36 : Lk (36, d36) := .inl ⟨Tryd.f18, ⟨rk, fun k => if [268].contains k then .imp else if [24, 25, 26, 38, 41, 47, 56, 128, 134, 135, 140, 143, 217, 246, 267, 277, 278, 281].contains k then .opn else .pure, .pure, false, 999999, none⟩, by rw [show km 36 = 18 from by kernel_rfl]; exact Tryd.func18, link _ _ _ _ (by intro t h; cases h <;> rfl), by kernel_rfl⟩
theorem l37 : Lk (37, d37) := .inl ⟨Tryd.f58, ⟨rk, fun k => if [268].contains k then .imp else if [24, 25, 26, 38, 41, 47, 56, 128, 134, 135, 140, 143, 217, 246, 267, 277, 278, 281].contains k then .opn else .pure, .pure, false, 999999, none⟩, by rw [show km 37 = 58 from by kernel_rfl]; exact Tryd.func58, link _ _ _ _ (by intro t h; cases h <;> rfl), by kernel_rfl⟩
theorem l48 : Lk (48, (dIdxF 3 (some 3))) := .inl ⟨Tryd.f47, ⟨rk, fun k => if [268].contains k then .imp else if [24, 25, 26, 38, 41, 47, 56, 128, 134, 135, 140, 143, 217, 246, 267, 277, 278, 281].contains k then .opn else .pure, .pure, false, 999999, none⟩, by rw [show km 48 = 47 from by kernel_rfl]; exact Tryd.func47, link _ _ _ _ (by intro t h; cases h <;> rfl), by kernel_rfl⟩
theorem l49 : Lk (49, d49) := .inl ⟨Tryd.f48, ⟨rk, fun k => if [268].contains k then .imp else if [24, 25, 26, 38, 41, 47, 56, 128, 134, 135, 140, 143, 217, 246, 267, 277, 278, 281].contains k then .opn else .pure, .pure, false, 999999, none⟩, by rw [show km 49 = 48 from by kernel_rfl]; exact Tryd.func48, link _ _ _ _ (by intro t h; cases h <;> rfl), by kernel_rfl⟩
theorem l50 : Lk (50, d50) := .inl ⟨Tryd.f49, ⟨rk, fun k => if [268].contains k then .imp else if [24, 25, 26, 38, 41, 47, 56, 128, 134, 135, 140, 143, 217, 246, 267, 277, 278, 281].contains k then .opn else .pure, .pure, false, 999999, none⟩, by rw [show km 50 = 49 from by kernel_rfl]; exact Tryd.func49, link _ _ _ _ (by intro t h; cases h <;> rfl), by kernel_rfl⟩
theorem l51 : Lk (51, (dConF 68)) := .inl ⟨Tryd.f50, ⟨rk, fun k => if [268].contains k then .imp else if [24, 25, 26, 38, 41, 47, 56, 128, 134, 135, 140, 143, 217, 246, 267, 277, 278, 281].contains k then .opn else .pure, .pure, false, 999999, none⟩, by rw [show km 51 = 50 from by kernel_rfl]; exact Tryd.func50, link _ _ _ _ (by intro t h; cases h <;> rfl), by kernel_rfl⟩
theorem l52 : Lk (52, d52) := .inl ⟨Tryd.f51, ⟨rk, fun k => if [268].contains k then .imp else if [24, 25, 26, 38, 41, 47, 56, 128, 134, 135, 140, 143, 217, 246, 267, 277, 278, 281].contains k then .opn else .pure, .pure, false, 999999, none⟩, by rw [show km 52 = 51 from by kernel_rfl]; exact Tryd.func51, link _ _ _ _ (by intro t h; cases h <;> rfl), by kernel_rfl⟩
theorem l53 : Lk (53, d53) := .inl ⟨Tryd.f52, ⟨rk, fun k => if [268].contains k then .imp else if [24, 25, 26, 38, 41, 47, 56, 128, 134, 135, 140, 143, 217, 246, 267, 277, 278, 281].contains k then .opn else .pure, .pure, false, 999999, none⟩, by rw [show km 53 = 52 from by kernel_rfl]; exact Tryd.func52, link _ _ _ _ (by intro t h; cases h <;> rfl), by kernel_rfl⟩
theorem l66 : Lk (66, d66) := .inl ⟨Tryd.f56, ⟨rk, fun k => if [268].contains k then .imp else if [24, 25, 26, 38, 41, 47, 56, 128, 134, 135, 140, 143, 217, 246, 267, 277, 278, 281].contains k then .opn else .pure, .pure, false, 999999, none⟩, by rw [show km 66 = 56 from by kernel_rfl]; exact Tryd.func56, link _ _ _ _ (by intro t h; cases h <;> rfl), by kernel_rfl⟩
theorem l67 : Lk (67, d67) := .inl ⟨Tryd.f57, ⟨rk, fun k => if [268].contains k then .imp else if [24, 25, 26, 38, 41, 47, 56, 128, 134, 135, 140, 143, 217, 246, 267, 277, 278, 281].contains k then .opn else .pure, .pure, false, 999999, none⟩, by rw [show km 67 = 57 from by kernel_rfl]; exact Tryd.func57, link _ _ _ _ (by intro t h; cases h <;> rfl), by kernel_rfl⟩
theorem l68 : Lk (68, (dIdxF 1 none)) := .inl ⟨Tryd.f59, ⟨rk, fun k => if [268].contains k then .imp else if [24, 25, 26, 38, 41, 47, 56, 128, 134, 135, 140, 143, 217, 246, 267, 277, 278, 281].contains k then .opn else .pure, .pure, false, 999999, none⟩, by rw [show km 68 = 59 from by kernel_rfl]; exact Tryd.func59, link _ _ _ _ (by intro t h; cases h <;> rfl), by kernel_rfl⟩
theorem l69 : Lk (69, d69) := .inl ⟨Tryd.f60, ⟨rk, fun k => if [268].contains k then .imp else if [24, 25, 26, 38, 41, 47, 56, 128, 134, 135, 140, 143, 217, 246, 267, 277, 278, 281].contains k then .opn else .pure, .pure, false, 999999, none⟩, by rw [show km 69 = 60 from by kernel_rfl]; exact Tryd.func60, link _ _ _ _ (by intro t h; cases h <;> rfl), by kernel_rfl⟩
theorem l70 : Lk (70, Def.prim (pureF trimV)) := .inr ⟨_, rfl, str2_prim ⟨Tryd.f61, by rw [show km 70 = 61 from by kernel_rfl]; exact Tryd.func61, by kernel_rfl, by decide⟩ (by rw [show km 70 = 61 from by kernel_rfl]; exact fun s t w h => Any.strings_Trim_laid Tryd.lays160 (by kernel_rfl) s t w (trimC_spec h).1 (trimC_spec h).2.1 (trimC_spec h).2.2)⟩
theorem l85 : Lk (85, d85) := .inl ⟨Tryd.f63, ⟨rk, fun k => if [268].contains k then .imp else if [24, 25, 26, 38, 41, 47, 56, 128, 134, 135, 140, 143, 217, 246, 267, 277, 278, 281].contains k then .opn else .pure, .pure, false, 999999, none⟩, by rw [show km 85 = 63 from by kernel_rfl]; exact Tryd.func63, link _ _ _ _ (by intro t h; cases h <;> rfl), by kernel_rfl⟩
theorem l142 : Lk (142, d142) := .inl ⟨Tryd.f35, ⟨rk, fun k => if [268].contains k then .imp else if [24, 25, 26, 38, 41, 47, 56, 128, 134, 135, 140, 143, 217, 246, 267, 277, 278, 281].contains k then .opn else .pure, .pure, false, 999999, none⟩, by rw [show km 142 = 35 from by kernel_rfl]; exact Tryd.func35, link _ _ _ _ (by intro t h; cases h <;> rfl), by kernel_rfl⟩
theorem cmp_calls (a b : ByteArray) (w : World) : Calls Tryd.prog 43 #[.string a, .string b] w fun e w' => e = .returned (.int .i64 (Lib.compareBytes a.data.toList b.data.toList)) ∧ w' = w := by
  go_enter Tryd.func43, Tryd.ntmps43
  go_wp2
  rw [run_callFunc_extern Tryd.func53 (by kernel_rfl) (by kernel_rfl) (by kernel_rfl) (e := Extern.BytealgCompare.compare) (by kernel_rfl), Lib.run_compareString]
  simp only [Result.andThen]
  rw [Oper.upon_value]
  go_wp2
  go_ret
  exact ⟨rfl, rfl⟩
theorem l153 : Lk (153, Def.prim (cmpF)) := .inr ⟨_, rfl, cmp_prim ⟨Tryd.f43, by rw [show km 153 = 43 from by kernel_rfl]; exact Tryd.func43, by kernel_rfl, by decide⟩ (by rw [show km 153 = 43 from by kernel_rfl]; exact cmp_calls)⟩
theorem l250 : Lk (250, d250) := .inl ⟨Tryd.f5, ⟨rk, fun k => if [268].contains k then .imp else if [24, 25, 26, 38, 41, 47, 56, 128, 134, 135, 140, 143, 217, 246, 258, 267, 277, 278, 281].contains k then .opn else .pure, .pure, false, 999999, none⟩, by rw [show km 250 = 5 from by kernel_rfl]; exact Tryd.func5, link _ _ _ _ (by intro t h; cases h <;> rfl), by kernel_rfl⟩
theorem l254 : Lk (254, x254) := .inl ⟨Tryd.f9, ⟨rk, fun k => if [268].contains k then .imp else if [24, 25, 26, 38, 41, 47, 56, 128, 134, 135, 140, 143, 217, 246, 258, 267, 277, 278, 281].contains k then .opn else .pure, .pure, false, 999999, none⟩, by rw [show km 254 = 9 from by kernel_rfl]; exact Tryd.func9, link _ _ _ _ (by intro t h; cases h <;> rfl), by kernel_rfl⟩
theorem l255 : Lk (255, d255) := .inl ⟨Tryd.f10, ⟨rk, fun k => if [268].contains k then .imp else if [24, 25, 26, 38, 41, 47, 56, 128, 134, 135, 140, 143, 217, 246, 267, 277, 278, 281].contains k then .opn else .pure, .pure, false, 999999, none⟩, by rw [show km 255 = 10 from by kernel_rfl]; exact Tryd.func10, link _ _ _ _ (by intro t h; cases h <;> rfl), by kernel_rfl⟩
theorem l257 : Lk (257, d257) := .inl ⟨Tryd.f12, ⟨rk, fun k => if [268].contains k then .imp else if [24, 25, 26, 38, 41, 47, 56, 128, 134, 135, 140, 143, 217, 246, 267, 277, 278, 281].contains k then .opn else .pure, .pure, false, 999999, none⟩, by rw [show km 257 = 12 from by kernel_rfl]; exact Tryd.func12, link _ _ _ _ (by intro t h; cases h <;> rfl), by kernel_rfl⟩
theorem l258 : Lk (258, d258) := .inl ⟨Tryd.f13, ⟨rk, fun k => if [268].contains k then .imp else if [24, 25, 26, 38, 41, 47, 56, 128, 134, 135, 140, 143, 217, 246, 267, 277, 278, 281].contains k then .opn else .pure, .pure, false, 999999, none⟩, by rw [show km 258 = 13 from by kernel_rfl]; exact Tryd.func13, link _ _ _ _ (by intro t h; cases h <;> rfl), by kernel_rfl⟩
theorem l259 : Lk (259, d259) := .inl ⟨Tryd.f14, ⟨rk, fun k => if [268].contains k then .imp else if [24, 25, 26, 38, 41, 47, 56, 128, 134, 135, 140, 143, 217, 246, 267, 277, 278, 281].contains k then .opn else .pure, .pure, false, 999999, none⟩, by rw [show km 259 = 14 from by kernel_rfl]; exact Tryd.func14, link _ _ _ _ (by intro t h; cases h <;> rfl), by kernel_rfl⟩
theorem l261 : Lk (261, d261) := .inl ⟨Tryd.f16, ⟨rk, fun k => if [268].contains k then .imp else if [24, 25, 26, 38, 41, 47, 56, 128, 134, 135, 140, 143, 217, 246, 267, 277, 278, 281].contains k then .opn else .pure, .pure, false, 999999, none⟩, by rw [show km 261 = 16 from by kernel_rfl]; exact Tryd.func16, link _ _ _ _ (by intro t h; cases h <;> rfl), by kernel_rfl⟩
theorem l262 : Lk (262, d262) := .inl ⟨Tryd.f17, ⟨rk, fun k => if [268].contains k then .imp else if [24, 25, 26, 38, 41, 47, 56, 128, 134, 135, 140, 143, 217, 246, 267, 277, 278, 281].contains k then .opn else .pure, .pure, false, 999999, none⟩, by rw [show km 262 = 17 from by kernel_rfl]; exact Tryd.func17, link _ _ _ _ (by intro t h; cases h <;> rfl), by kernel_rfl⟩
theorem l265 : Lk (265, d265) := .inl ⟨Tryd.f21, ⟨rk, fun k => if [268].contains k then .imp else if [24, 25, 26, 38, 41, 47, 56, 128, 134, 135, 140, 143, 217, 246, 267, 277, 278, 281].contains k then .opn else .pure, .pure, false, 999999, none⟩, by rw [show km 265 = 21 from by kernel_rfl]; exact Tryd.func21, link _ _ _ _ (by intro t h; cases h <;> rfl), by kernel_rfl⟩
theorem l266 : Lk (266, d266) := .inl ⟨Tryd.f22, ⟨rk, fun k => if [268].contains k then .imp else if [24, 25, 26, 38, 41, 47, 56, 128, 134, 135, 140, 143, 217, 246, 267, 277, 278, 281].contains k then .opn else .pure, .pure, false, 999999, none⟩, by rw [show km 266 = 22 from by kernel_rfl]; exact Tryd.func22, link _ _ _ _ (by intro t h; cases h <;> rfl), by kernel_rfl⟩
theorem l267 : Lk (267, d267) := .inl ⟨Tryd.f23, ⟨rk, fun k => if [268].contains k then .imp else if [24, 25, 26, 38, 41, 47, 56, 128, 134, 135, 140, 143, 217, 246, 267, 277, 278, 281].contains k then .opn else .pure, .pure, false, 999999, none⟩, by rw [show km 267 = 23 from by kernel_rfl]; exact Tryd.func23, link _ _ _ _ (by intro t h; cases h <;> rfl), by kernel_rfl⟩
theorem l268 : Lk (268, Def.prim (cloneF 3 48)) := .inr ⟨_, rfl, clone_prim (fn := Tryd.f24) (c := (Tryd.f24.body.getD .skip)) (t := 22) (e := 41) (A := ⟨rk, fun _ => .pure, .pure, false, 999999, none⟩) mixed (by rw [show km 268 = 24 from by kernel_rfl]; exact Tryd.func24) (by kernel_rfl) (by decide) (by kernel_rfl) (by kernel_rfl) (by kernel_rfl) (link _ _ _ _ (by intro t h; cases h <;> rfl))
  ⟨cOp (cFst (Tryd.f24.body.getD .skip)) 0, cOp (cFst (cFst (cSnd (Tryd.f24.body.getD .skip)))) 0, cOp (cFst (cFst (cSnd (Tryd.f24.body.getD .skip)))) 1, cThen (cSnd (cFst (cSnd (Tryd.f24.body.getD .skip)))), cSnd (cSnd (Tryd.f24.body.getD .skip)), by kernel_rfl, ⟨by kernel_rfl, by kernel_rfl, by kernel_rfl⟩, ⟨by kernel_rfl, by kernel_rfl, by kernel_rfl⟩, ⟨22, by kernel_rfl, by kernel_rfl, by kernel_rfl⟩, by kernel_rfl, by kernel_rfl⟩ rfl rfl⟩
theorem l269 : Lk (269, d269) := .inl ⟨Tryd.f26, ⟨rk, fun k => if [268].contains k then .imp else if [24, 25, 26, 38, 41, 47, 56, 128, 134, 135, 140, 143, 217, 246, 267, 277, 278, 281].contains k then .opn else .pure, .pure, false, 999999, none⟩, by rw [show km 269 = 26 from by kernel_rfl]; exact Tryd.func26, link _ _ _ _ (by intro t h; cases h <;> rfl), by kernel_rfl⟩
theorem l270 : Lk (270, d270) := .inl ⟨Tryd.f27, ⟨rk, fun k => if [268].contains k then .imp else if [24, 25, 26, 38, 41, 47, 56, 128, 134, 135, 140, 143, 217, 246, 267, 277, 278, 281].contains k then .opn else .pure, .pure, false, 999999, none⟩, by rw [show km 270 = 27 from by kernel_rfl]; exact Tryd.func27, link _ _ _ _ (by intro t h; cases h <;> rfl), by kernel_rfl⟩
theorem l271 : Lk (271, d271) := .inl ⟨Tryd.f28, ⟨rk, fun k => if [268].contains k then .imp else if [24, 25, 26, 38, 41, 47, 56, 128, 134, 135, 140, 143, 217, 246, 267, 277, 278, 281].contains k then .opn else .pure, .pure, false, 999999, none⟩, by rw [show km 271 = 28 from by kernel_rfl]; exact Tryd.func28, link _ _ _ _ (by intro t h; cases h <;> rfl), by kernel_rfl⟩
theorem l275 : Lk (275, (dBsF 3 (some 3))) := .inl ⟨Tryd.f33, ⟨rk, fun k => if [268].contains k then .imp else if [24, 25, 26, 38, 41, 47, 56, 128, 134, 135, 140, 143, 217, 246, 267, 277, 278, 281].contains k then .opn else .pure, .pure, false, 999999, none⟩, by rw [show km 275 = 33 from by kernel_rfl]; exact Tryd.func33, link _ _ _ _ (by intro t h; cases h <;> rfl), by kernel_rfl⟩
theorem l276 : Lk (276, d276) := .inl ⟨Tryd.f34, ⟨rk, fun k => if [268].contains k then .imp else if [24, 25, 26, 38, 41, 47, 56, 128, 134, 135, 140, 143, 217, 246, 267, 277, 278, 281].contains k then .opn else .pure, .pure, false, 999999, none⟩, by rw [show km 276 = 34 from by kernel_rfl]; exact Tryd.func34, link _ _ _ _ (by intro t h; cases h <;> rfl), by kernel_rfl⟩
theorem l277 : Lk (277, d277) := .inl ⟨Tryd.f36, ⟨rk, fun k => if [268].contains k then .imp else if [24, 25, 26, 38, 41, 47, 56, 128, 134, 135, 140, 143, 217, 246, 267, 277, 278, 281].contains k then .opn else .pure, .pure, false, 999999, none⟩, by rw [show km 277 = 36 from by kernel_rfl]; exact Tryd.func36, link _ _ _ _ (by intro t h; cases h <;> rfl), by kernel_rfl⟩
theorem l278 : Lk (278, Def.prim (delF 3)) := .inr ⟨_, rfl, del_prim (ρ := (rhoK 22 41 3 4 54 55)) (z := ((Tryd.prog.info? 41).bind (·.zero)).getD (.bool false)) ⟨Tryd.f37, by rw [show km 278 = 37 from by kernel_rfl]; exact Tryd.func37, by kernel_rfl, by decide⟩ (show DelOk Tryd.prog _ (km 278) 3 _ from by rw [show km 278 = 37 from by kernel_rfl]; exact ⟨mixed, ⟨Tryd.f37.name, Tryd.f37.origin, Tryd.f37.targs, Tryd.f37.norace, Tryd.f37.ours, Tryd.func37.trans (congrArg some (by kernel_rfl))⟩, by kernel_rfl, by kernel_rfl, by kernel_rfl, by kernel_rfl, by kernel_rfl, by kernel_rfl, by kernel_rfl, by decide, fun _ => run_agg (b := false) (by kernel_rfl), fun _ => run_agg (b := false) (by kernel_rfl), fun _ => run_agg (b := false) (by kernel_rfl), fun _ => run_size (n := 1) (by kernel_rfl), fun _ => run_size (n := 1) (by kernel_rfl), fun _ => run_size (n := 3) (by kernel_rfl), fun _ => run_size (n := 1) (by kernel_rfl), fun _ => run_zero (by kernel_rfl)⟩)⟩
theorem l279 : Lk (279, d279) := .inl ⟨Tryd.f38, ⟨rk, fun k => if [268].contains k then .imp else if [24, 25, 26, 38, 41, 47, 56, 128, 134, 135, 140, 143, 217, 246, 267, 277, 278, 281].contains k then .opn else .pure, .opn, false, 999999, none⟩, by rw [show km 279 = 38 from by kernel_rfl]; exact Tryd.func38, link _ _ _ _ (by intro t h; cases h <;> rfl), by kernel_rfl⟩
theorem l281 : Lk (281, Def.prim (insF 3 48)) := .inr ⟨_, rfl, ins_prim (ρ := (rhoK 22 41 3 4 54 55)) (z := ((Tryd.prog.info? 41).bind (·.zero)).getD (.bool false)) ⟨Tryd.f44, by rw [show km 281 = 44 from by kernel_rfl]; exact Tryd.func44, by kernel_rfl, by decide⟩ (show InsOk Tryd.prog _ (km 281) 3 48 _ from by rw [show km 281 = 44 from by kernel_rfl]; exact ⟨mixed, ⟨Tryd.f44.name, Tryd.f44.origin, Tryd.f44.targs, Tryd.f44.norace, Tryd.f44.ours, Tryd.func44.trans (congrArg some (by kernel_rfl))⟩, fun args w => run_callFunc_extern Tryd.func54 (by kernel_rfl) (by kernel_rfl) (by kernel_rfl) (e := Extern.SlicesOverlaps.overlaps #[22, 22] #[4]) (by kernel_rfl) args w, by kernel_rfl, by kernel_rfl, by kernel_rfl, by kernel_rfl, by kernel_rfl, by decide, fun _ => run_agg (b := false) (by kernel_rfl), fun _ => run_agg (b := false) (by kernel_rfl), fun _ => run_agg (b := false) (by kernel_rfl), fun _ => run_size (n := 1) (by kernel_rfl), fun _ => run_size (n := 1) (by kernel_rfl), fun _ => run_size (n := 3) (by kernel_rfl), fun _ => run_size (n := 1) (by kernel_rfl)⟩) (by decide)⟩
theorem l282 : Lk (282, d282) := .inl ⟨Tryd.f45, ⟨rk, fun k => if [268].contains k then .imp else if [24, 25, 26, 38, 41, 47, 56, 128, 134, 135, 140, 143, 217, 246, 267, 277, 278, 281].contains k then .opn else .pure, .pure, false, 999999, none⟩, by rw [show km 282 = 45 from by kernel_rfl]; exact Tryd.func45, link _ _ _ _ (by intro t h; cases h <;> rfl), by kernel_rfl⟩
theorem linked : Linked km Tryd.prog env := fun k D h => by
  have hm := lookup_mem h
  have hall : ∀ p ∈ en, Lk p := List.forall_mem_cons.2 ⟨l9 , List.forall_mem_cons.2 ⟨l27 , List.forall_mem_cons.2 ⟨l28 , List.forall_mem_cons.2 ⟨l29 , List.forall_mem_cons.2 ⟨l36 , List.forall_mem_cons.2 ⟨l37 , List.forall_mem_cons.2 ⟨l48 , List.forall_mem_cons.2 ⟨l49 , List.forall_mem_cons.2 ⟨l50 , List.forall_mem_cons.2 ⟨l51 , List.forall_mem_cons.2 ⟨l52 , List.forall_mem_cons.2 ⟨l53 , List.forall_mem_cons.2 ⟨l66 , List.forall_mem_cons.2 ⟨l67 , List.forall_mem_cons.2 ⟨l68 , List.forall_mem_cons.2 ⟨l69 , List.forall_mem_cons.2 ⟨l70 , List.forall_mem_cons.2 ⟨l85 , List.forall_mem_cons.2 ⟨l142 , List.forall_mem_cons.2 ⟨l153 , List.forall_mem_cons.2 ⟨l250 , List.forall_mem_cons.2 ⟨l254 , List.forall_mem_cons.2 ⟨l255 , List.forall_mem_cons.2 ⟨l257 , List.forall_mem_cons.2 ⟨l258 , List.forall_mem_cons.2 ⟨l259 , List.forall_mem_cons.2 ⟨l261 , List.forall_mem_cons.2 ⟨l262 , List.forall_mem_cons.2 ⟨l265 , List.forall_mem_cons.2 ⟨l266 , List.forall_mem_cons.2 ⟨l267 , List.forall_mem_cons.2 ⟨l268 , List.forall_mem_cons.2 ⟨l269 , List.forall_mem_cons.2 ⟨l270 , List.forall_mem_cons.2 ⟨l271 , List.forall_mem_cons.2 ⟨l275 , List.forall_mem_cons.2 ⟨l276 , List.forall_mem_cons.2 ⟨l277 , List.forall_mem_cons.2 ⟨l278 , List.forall_mem_cons.2 ⟨l279 , List.forall_mem_cons.2 ⟨l281 , List.forall_mem_cons.2 ⟨l282 , fun p hp => by simp at hp⟩⟩⟩⟩⟩⟩⟩⟩⟩⟩⟩⟩⟩⟩⟩⟩⟩⟩⟩⟩⟩⟩⟩⟩⟩⟩⟩⟩⟩⟩⟩⟩⟩⟩⟩⟩⟩⟩⟩⟩⟩⟩
  exact hall _ hm
theorem has_law : Has law env := by
  unfold Has law
  repeat' first | (refine List.forall_mem_cons.2 ⟨by kernel_rfl, ?_⟩) | (intro p hp; simp at hp; done)
theorem has_lja : Has lja env := by
  unfold Has lja
  repeat' first | (refine List.forall_mem_cons.2 ⟨by kernel_rfl, ?_⟩) | (intro p hp; simp at hp; done)
theorem has_ljb : Has ljb env := by
  unfold Has ljb
  repeat' first | (refine List.forall_mem_cons.2 ⟨by kernel_rfl, ?_⟩) | (intro p hp; simp at hp; done)
theorem has_lda : Has lda env := by
  unfold Has lda
  repeat' first | (refine List.forall_mem_cons.2 ⟨by kernel_rfl, ?_⟩) | (intro p hp; simp at hp; done)
theorem has_ldb : Has ldb env := by
  unfold Has ldb
  repeat' first | (refine List.forall_mem_cons.2 ⟨by kernel_rfl, ?_⟩) | (intro p hp; simp at hp; done)
theorem has_ldc : Has ldc env := by
  unfold Has ldc
  repeat' first | (refine List.forall_mem_cons.2 ⟨by kernel_rfl, ?_⟩) | (intro p hp; simp at hp; done)
theorem has_ljc : Has ljc env := by
  unfold Has ljc
  repeat' first | (refine List.forall_mem_cons.2 ⟨by kernel_rfl, ?_⟩) | (intro p hp; simp at hp; done)
theorem has_ljd : Has ljd env := by
  unfold Has ljd
  repeat' first | (refine List.forall_mem_cons.2 ⟨by kernel_rfl, ?_⟩) | (intro p hp; simp at hp; done)
theorem has_lje : Has lje env := by
  unfold Has lje
  repeat' first | (refine List.forall_mem_cons.2 ⟨by kernel_rfl, ?_⟩) | (intro p hp; simp at hp; done)
theorem has_ljf : Has ljf env := by
  unfold Has ljf
  repeat' first | (refine List.forall_mem_cons.2 ⟨by kernel_rfl, ?_⟩) | (intro p hp; simp at hp; done)
theorem has_ljg : Has ljg env := by
  unfold Has ljg
  repeat' first | (refine List.forall_mem_cons.2 ⟨by kernel_rfl, ?_⟩) | (intro p hp; simp at hp; done)
theorem has_ljh : Has ljh env := by
  unfold Has ljh
  repeat' first | (refine List.forall_mem_cons.2 ⟨by kernel_rfl, ?_⟩) | (intro p hp; simp at hp; done)
theorem has_lib : Has lib env := by
  unfold Has lib
  repeat' first | (refine List.forall_mem_cons.2 ⟨by kernel_rfl, ?_⟩) | (intro p hp; simp at hp; done)
theorem has_lic : Has lic env := by
  unfold Has lic
  repeat' first | (refine List.forall_mem_cons.2 ⟨by kernel_rfl, ?_⟩) | (intro p hp; simp at hp; done)
theorem has_lie : Has lie env := by
  unfold Has lie
  repeat' first | (refine List.forall_mem_cons.2 ⟨by kernel_rfl, ?_⟩) | (intro p hp; simp at hp; done)
theorem has_lii : Has lii env := by
  unfold Has lii
  repeat' first | (refine List.forall_mem_cons.2 ⟨by kernel_rfl, ?_⟩) | (intro p hp; simp at hp; done)
theorem has_ljl : Has ljl env := by
  unfold Has ljl
  repeat' first | (refine List.forall_mem_cons.2 ⟨by kernel_rfl, ?_⟩) | (intro p hp; simp at hp; done)
theorem has_ljm : Has ljm env := by
  unfold Has ljm
  repeat' first | (refine List.forall_mem_cons.2 ⟨by kernel_rfl, ?_⟩) | (intro p hp; simp at hp; done)
end Go.Proofs.YtemoboghbdcjkaaDoorPv

