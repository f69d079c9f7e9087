/-
The program's functions are those that the evaluator knows.
-/
import Derived.Test.YtdlfomiclkpibaaDoorPkBlockNotesD
import Derived.Test.YtdlfomiclkpibaaDoorCPvRc
import Derived.Test.YtdlfomiclkpibaaDoorShelf
import Derived.Test.YtdlfomiclkpibaaDoorPvPb
import Derived.Test.YtdlfomiclkpibaaDoorProg
import Derived.KernelRfl
import Derived.WalkKit
import Derived.Lib.Bytealg
import Derived.Lib.Walk
import Derived.Shelf.Strings.SlTrimAscii
namespace Go.Proofs.YtdlfomiclkpibaaDoorPv
open Go Go.Proofs
set_option maxRecDepth 100000
set_option maxHeartbeats 4000000
def x13 : Def := (.code 0 [.tmp 0] (.seq (.rg false [⟨.some 0, .none, .mv (.c (.bool false))⟩]) (.seq (.rg false [⟨.some 4, .none, .bsl 1 (.string ⟨#[]⟩) 1 [(0, .c (.string ⟨#[110, 97, 109, 101]⟩))]⟩, ⟨.some 5, .none, .bsl 1 (.string ⟨#[]⟩) 1 [(0, .c (.string ⟨#[97, 32, 98]⟩))]⟩, ⟨.some 6, .none, .build (.agg #[.string ⟨#[]⟩, .slice .none 0 0, .slice .none 0 0]) [(0, (1, .c (.string ⟨#[104, 111, 115, 116]⟩))), (1, (1, .t 4)), (2, (1, .t 5))]⟩, ⟨.some 7, .none, .bsl 3 (.agg #[.string ⟨#[]⟩, .slice .none 0 0, .slice .none 0 0]) 1 [(0, .t 6)]⟩, ⟨.some 8, .none, .call 8 .pure [.t 7]⟩, ⟨.some 3, .none, .mv (.t 8)⟩, ⟨.some 9, .none, .ext (.t 3) 0⟩, ⟨.some 10, .none, .ext (.t 3) 1⟩, ⟨.some 1, .none, .mv (.t 9)⟩, ⟨.some 2, .none, .mv (.t 10)⟩]) (.seq (.rg false [⟨.some 11, .none, .mv (.t 2)⟩, ⟨.some 12, .none, .bin .eql (.t 11) (.c (.int .i64 0))⟩, ⟨.some 13, .none, .mv (.t 12)⟩, ⟨.some 14, .some (13, true), .mv (.t 1)⟩, ⟨.some 15, .some (13, true), .bin .eql (.t 14) (.c (.string ⟨#[100, 101, 102, 105, 110, 101, 32, 104, 111, 115, 116, 32, 123, 10, 9, 110, 97, 109, 101, 9, 97, 32, 98, 10, 125, 10]⟩))⟩, ⟨.some 16, .none, .pick (.t 13) (.t 15) (.c (.bool false))⟩, ⟨.some 0, .none, .mv (.t 16)⟩]) .ret))))
def rkl : List (Nat × Nat) := [(3, 1), (4, 2), (5, 3), (6, 4), (7, 5), (8, 6), (9, 7), (10, 8), (11, 9), (12, 10), (13, 11), (14, 12), (15, 13), (16, 14), (17, 15), (18, 16), (19, 17), (20, 18), (21, 19), (22, 20), (23, 21), (24, 22), (25, 23), (26, 24), (27, 25), (28, 26), (29, 27), (30, 28), (31, 29), (32, 30), (33, 31), (34, 32), (35, 33), (36, 34), (37, 35), (38, 36), (39, 37), (40, 38), (41, 39), (42, 40), (43, 41), (44, 42), (45, 43), (46, 44), (47, 45), (48, 46), (49, 47), (50, 48), (51, 49), (52, 50), (53, 51), (54, 52), (55, 53), (56, 54), (57, 55), (58, 56), (59, 57), (60, 58), (61, 59), (62, 60), (63, 61), (64, 62), (65, 63), (66, 64), (67, 65), (68, 66), (69, 67), (70, 68), (71, 69), (72, 70), (73, 71), (74, 72), (75, 73), (76, 74), (77, 75), (78, 76), (79, 77), (80, 78), (81, 79), (82, 80), (83, 81), (84, 82), (85, 83), (86, 84), (87, 85), (88, 86), (89, 87), (90, 88), (91, 89), (92, 90), (93, 91), (94, 92), (95, 93), (96, 94), (97, 95), (98, 96), (99, 97), (100, 98), (101, 99)]
def rk : Nat → Option Nat := fun i => List.lookup i rkl
def kml : List (Nat × Nat) := [(1, 3), (2, 4), (3, 5), (4, 6), (5, 7), (6, 8), (7, 9), (8, 10), (9, 11), (10, 12), (11, 13), (12, 14), (13, 15), (14, 16), (15, 17), (16, 18), (17, 19), (18, 20), (19, 21), (20, 22), (21, 23), (22, 24), (23, 25), (24, 26), (25, 27), (26, 28), (27, 29), (28, 30), (29, 31), (30, 32), (31, 33), (32, 34), (33, 35), (34, 36), (35, 37), (36, 38), (37, 39), (38, 40), (39, 41), (40, 42), (41, 43), (42, 44), (43, 45), (44, 46), (45, 47), (46, 48), (47, 49), (48, 50), (49, 51), (50, 52), (51, 53), (52, 54), (53, 55), (54, 56), (55, 57), (56, 58), (57, 59), (58, 60), (59, 61), (60, 62), (61, 63), (62, 64), (63, 65), (64, 66), (65, 67), (66, 68), (67, 69), (68, 70), (69, 71), (70, 72), (71, 73), (72, 74), (73, 75), (74, 76), (75, 77), (76, 78), (77, 79), (78, 80), (79, 81), (80, 82), (81, 83), (82, 84), (83, 85), (84, 86), (85, 87), (86, 88), (87, 89), (88, 90), (89, 91), (90, 92), (91, 93), (92, 94), (93, 95), (94, 96), (95, 97), (96, 98), (97, 99), (98, 100), (99, 101)]
def kmf (k : Nat) : Nat := (List.lookup k kml).getD 0
def km (mx : Int) : Km := ⟨kmf, fun a v => a = ⟨0, 0, none⟩ ∧ v = .int .i64 mx, 51, 5⟩
theorem lookup_mem {α : Type} {l : List (Nat × α)} {i : Nat} {k : α} (h : List.lookup i l = some k) : (i, k) ∈ l := by
  induction l with
  | nil => cases h
  | cons p r ih =>
    obtain ⟨a, b⟩ := p
    simp only [List.lookup] at h
    split at h
    · rename_i he
      simp only [Option.some.injEq] at h
      subst h
      simp only [beq_iff_eq] at he
      subst he
      exact List.mem_cons_self
    · exact List.mem_cons_of_mem _ (ih h)
theorem km_all : rkl.all (fun p => kmf p.2 == p.1) = true := by kernel_rfl
theorem link (mx : Int) (md : Nat → Mode) (vm : Mode) (kw : Bool) (bb : Option TypeId) (hb : ∀ t, bb = some t → t = 5) : LinkOk (km mx) ⟨rk, md, vm, kw, 51, bb⟩ := ⟨fun f k h => by
  have := List.all_eq_true.1 km_all _ (lookup_mem h)
  exact (by simpa using this : kmf k = f), rfl, fun t h => (hb t h).symm⟩
theorem mixed : Tryd.prog.follows .mixedOrders = true := by kernel_rfl
def en : List (Nat × Def) := [(1, d1), (2, d2), (3, d3), (4, d4), (5, d5), (6, d6), (7, d7), (8, d8), (9, d9), (10, d10), (11, d11), (12, d12), (13, x13), (14, d14), (15, d15), (16, d16), (17, d17), (18, d18), (19, d19), (20, d20), (21, d21), (22, d22), (23, Def.prim (joinF)), (24, d24), (25, d25), (26, Def.prim (strF)), (27, (dConF 48)), (28, d28), (29, d29), (30, d30), (31, d31), (32, d32), (33, (dEqF 3 #[.string ⟨#[]⟩, .slice none 0 0, .slice none 0 0])), (34, d34), (35, d35), (36, d36), (37, d37), (38, d38), (39, d39), (40, d40), (41, d41), (42, d42), (43, d43), (44, d44), (45, d45), (47, Def.prim (ccF)), (48, (dIdxF 3 (some 3))), (49, d49), (50, d50), (51, (dConF 68)), (52, d52), (53, d53), (54, d54), (55, d55), (56, d56), (57, d57), (58, Def.prim (pureF trimLV)), (59, d59), (60, d60), (62, Def.prim (pureF cntF)), (63, Def.prim (pureF idxF)), (66, d66), (67, d67), (68, (dIdxF 1 none)), (69, d69), (70, Def.prim (pureF trimV)), (71, d71), (72, d72), (85, d85), (89, d89)]
def env (k : Nat) : Option Def := List.lookup k en
def Lk (mx : Int) (p : Nat × Def) : Prop := (∃ fn A, Tryd.prog.funcs[(km mx) p.1]? = some fn ∧ LinkOk (km mx) A ∧ compF Tryd.prog A fn = some p.2) ∨ ∃ f, p.2 = .prim f ∧ PrimOk (km mx) Tryd.prog p.1 f
/-- transhipment/transhipmentlaw06.BlockPrints -/
theorem l1 (mx : Int) : Lk mx (1, d1) := .inl ⟨Tryd.f3, ⟨rk, fun k => if [24, 25, 26, 38, 41, 47, 56, 128, 134, 135, 140, 143, 217, 246].contains k then .opn else .pure, .pure, false, 51, none⟩, by rw [show (km mx) 1 = 3 from by kernel_rfl]; exact Tryd.func3, link mx _ _ _ _ (by intro t h; cases h <;> rfl), by kernel_rfl⟩
/-- transhipment/transhipmentlaw06.BlockParses -/
theorem l2 (mx : Int) : Lk mx (2, d2) := .inl ⟨Tryd.f4, ⟨rk, fun k => if [24, 25, 26, 38, 41, 47, 56, 128, 134, 135, 140, 143, 217, 246].contains k then .opn else .pure, .pure, false, 51, none⟩, by rw [show (km mx) 2 = 4 from by kernel_rfl]; exact Tryd.func4, link mx _ _ _ _ (by intro t h; cases h <;> rfl), by kernel_rfl⟩
/-- transhipment/transhipmentlaw06.BlockParts -/
theorem l3 (mx : Int) : Lk mx (3, d3) := .inl ⟨Tryd.f5, ⟨rk, fun k => if [24, 25, 26, 38, 41, 47, 56, 128, 134, 135, 140, 143, 217, 246].contains k then .opn else .pure, .pure, false, 51, none⟩, by rw [show (km mx) 3 = 5 from by kernel_rfl]; exact Tryd.func5, link mx _ _ _ _ (by intro t h; cases h <;> rfl), by kernel_rfl⟩
/-- transhipment/transhipmentlaw06.BlockApart -/
theorem l4 (mx : Int) : Lk mx (4, d4) := .inl ⟨Tryd.f6, ⟨rk, fun k => if [24, 25, 26, 38, 41, 47, 56, 128, 134, 135, 140, 143, 217, 246].contains k then .opn else .pure, .pure, false, 51, none⟩, by rw [show (km mx) 4 = 6 from by kernel_rfl]; exact Tryd.func6, link mx _ _ _ _ (by intro t h; cases h <;> rfl), by kernel_rfl⟩
/-- transhipment/transhipmentlaw06.BlockBack -/
theorem l5 (mx : Int) : Lk mx (5, d5) := .inl ⟨Tryd.f7, ⟨rk, fun k => if [24, 25, 26, 38, 41, 47, 56, 128, 134, 135, 140, 143, 217, 246].contains k then .opn else .pure, .pure, false, 51, none⟩, by rw [show (km mx) 5 = 7 from by kernel_rfl]; exact Tryd.func7, link mx _ _ _ _ (by intro t h; cases h <;> rfl), by kernel_rfl⟩
/-- transhipment/transhipmentlaw06.BlockNotes -/
theorem l6 (mx : Int) : Lk mx (6, d6) := .inl ⟨Tryd.f8, ⟨rk, fun k => if [24, 25, 26, 38, 41, 47, 56, 128, 134, 135, 140, 143, 217, 246].contains k then .opn else .pure, .pure, false, 51, none⟩, by rw [show (km mx) 6 = 8 from by kernel_rfl]; exact Tryd.func8, link mx _ _ _ _ (by intro t h; cases h <;> rfl), by kernel_rfl⟩
/-- transhipment/transhipmentlaw06.few -/
theorem l7 (mx : Int) : Lk mx (7, d7) := .inl ⟨Tryd.f9, ⟨rk, fun k => if [24, 25, 26, 38, 41, 47, 56, 128, 134, 135, 140, 143, 217, 246].contains k then .opn else .pure, .pure, false, 51, none⟩, by rw [show (km mx) 7 = 9 from by kernel_rfl]; exact Tryd.func9, link mx _ _ _ _ (by intro t h; cases h <;> rfl), by kernel_rfl⟩
/-- transhipment/block.Print -/
theorem l8 (mx : Int) : Lk mx (8, d8) := .inl ⟨Tryd.f10, ⟨rk, fun k => if [24, 25, 26, 38, 41, 47, 56, 128, 134, 135, 140, 143, 217, 246].contains k then .opn else .pure, .pure, false, 51, none⟩, by rw [show (km mx) 8 = 10 from by kernel_rfl]; exact Tryd.func10, link mx _ _ _ _ (by intro t h; cases h <;> rfl), by kernel_rfl⟩
/-- transhipment/block.Right -/
theorem l9 (mx : Int) : Lk mx (9, d9) := .inl ⟨Tryd.f11, ⟨rk, fun k => if [24, 25, 26, 38, 41, 47, 56, 128, 134, 135, 140, 143, 217, 246].contains k then .opn else .pure, .pure, false, 51, none⟩, by rw [show (km mx) 9 = 11 from by kernel_rfl]; exact Tryd.func11, link mx _ _ _ _ (by intro t h; cases h <;> rfl), by kernel_rfl⟩
/-- transhipment/transhipmentref06.Right -/
theorem l10 (mx : Int) : Lk mx (10, d10) := .inl ⟨Tryd.f12, ⟨rk, fun k => if [24, 25, 26, 38, 41, 47, 56, 128, 134, 135, 140, 143, 217, 246].contains k then .opn else .pure, .pure, false, 51, none⟩, by rw [show (km mx) 10 = 12 from by kernel_rfl]; exact Tryd.func12, link mx _ _ _ _ (by intro t h; cases h <;> rfl), by kernel_rfl⟩
/-- transhipment/block.Like -/
theorem l11 (mx : Int) : Lk mx (11, d11) := .inl ⟨Tryd.f13, ⟨rk, fun k => if [24, 25, 26, 38, 41, 47, 56, 128, 134, 135, 140, 143, 217, 246].contains k then .opn else .pure, .pure, false, 51, none⟩, by rw [show (km mx) 11 = 13 from by kernel_rfl]; exact Tryd.func13, link mx _ _ _ _ (by intro t h; cases h <;> rfl), by kernel_rfl⟩
/-- transhipment/transhipmentref06.Like -/
theorem l12 (mx : Int) : Lk mx (12, d12) := .inl ⟨Tryd.f14, ⟨rk, fun k => if [24, 25, 26, 38, 41, 47, 56, 128, 134, 135, 140, 143, 217, 246].contains k then .opn else .pure, .pure, false, 51, none⟩, by rw [show (km mx) 12 = 14 from by kernel_rfl]; exact Tryd.func14, link mx _ _ _ _ (by intro t h; cases h <;> rfl), by kernel_rfl⟩
/-- transhipment/transhipmentlaw06.alive -/
theorem l13 (mx : Int) : Lk mx (13, x13) := .inl ⟨Tryd.f15, ⟨rk, fun k => if [24, 25, 26, 38, 41, 47, 56, 128, 134, 135, 140, 143, 217, 246].contains k then .opn else .pure, .pure, false, 51, none⟩, by rw [show (km mx) 13 = 15 from by kernel_rfl]; exact Tryd.func15, link mx _ _ _ _ (by intro t h; cases h <;> rfl), by kernel_rfl⟩
/-- transhipment/block.Get -/
theorem l14 (mx : Int) : Lk mx (14, d14) := .inl ⟨Tryd.f16, ⟨rk, fun k => if [24, 25, 26, 38, 41, 47, 56, 128, 134, 135, 140, 143, 217, 246].contains k then .opn else .pure, .pure, false, 51, none⟩, by rw [show (km mx) 14 = 16 from by kernel_rfl]; exact Tryd.func16, link mx _ _ _ _ (by intro t h; cases h <;> rfl), by kernel_rfl⟩
/-- transhipment/transhipmentref06.Text -/
theorem l15 (mx : Int) : Lk mx (15, d15) := .inl ⟨Tryd.f17, ⟨rk, fun k => if [24, 25, 26, 38, 41, 47, 56, 128, 134, 135, 140, 143, 217, 246].contains k then .opn else .pure, .pure, false, 51, none⟩, by rw [show (km mx) 15 = 17 from by kernel_rfl]; exact Tryd.func17, link mx _ _ _ _ (by intro t h; cases h <;> rfl), by kernel_rfl⟩
/-- transhipment/block.Parse -/
theorem l16 (mx : Int) : Lk mx (16, d16) := .inl ⟨Tryd.f18, ⟨rk, fun k => if [24, 25, 26, 38, 41, 47, 56, 128, 134, 135, 140, 143, 217, 246].contains k then .opn else .pure, .opn, false, 51, none⟩, by rw [show (km mx) 16 = 18 from by kernel_rfl]; exact Tryd.func18, link mx _ _ _ _ (by intro t h; cases h <;> rfl), by kernel_rfl⟩
/-- transhipment/transhipmentref06.Parse -/
theorem l17 (mx : Int) : Lk mx (17, d17) := .inl ⟨Tryd.f19, ⟨rk, fun k => if [24, 25, 26, 38, 41, 47, 56, 128, 134, 135, 140, 143, 217, 246].contains k then .opn else .pure, .pure, false, 51, none⟩, by rw [show (km mx) 17 = 19 from by kernel_rfl]; exact Tryd.func19, link mx _ _ _ _ (by intro t h; cases h <;> rfl), by kernel_rfl⟩
/-- strings.Split -/
theorem l18 (mx : Int) : Lk mx (18, d18) := .inl ⟨Tryd.f20, ⟨rk, fun k => if [24, 25, 26, 38, 41, 47, 56, 128, 134, 135, 140, 143, 217, 246].contains k then .opn else .pure, .pure, false, 51, none⟩, by rw [show (km mx) 18 = 20 from by kernel_rfl]; exact Tryd.func20, link mx _ _ _ _ (by intro t h; cases h <;> rfl), by kernel_rfl⟩
/-- strings.TrimSuffix -/
theorem l19 (mx : Int) : Lk mx (19, d19) := .inl ⟨Tryd.f21, ⟨rk, fun k => if [24, 25, 26, 38, 41, 47, 56, 128, 134, 135, 140, 143, 217, 246].contains k then .opn else .pure, .pure, false, 51, none⟩, by rw [show (km mx) 19 = 21 from by kernel_rfl]; exact Tryd.func21, link mx _ _ _ _ (by intro t h; cases h <;> rfl), by kernel_rfl⟩
/-- transhipment/transhipmentref06.Blank -/
theorem l20 (mx : Int) : Lk mx (20, d20) := .inl ⟨Tryd.f22, ⟨rk, fun k => if [24, 25, 26, 38, 41, 47, 56, 128, 134, 135, 140, 143, 217, 246].contains k then .opn else .pure, .pure, false, 51, none⟩, by rw [show (km mx) 20 = 22 from by kernel_rfl]; exact Tryd.func22, link mx _ _ _ _ (by intro t h; cases h <;> rfl), by kernel_rfl⟩
/-- strings.Contains -/
theorem l21 (mx : Int) : Lk mx (21, d21) := .inl ⟨Tryd.f23, ⟨rk, fun k => if [24, 25, 26, 38, 41, 47, 56, 128, 134, 135, 140, 143, 217, 246].contains k then .opn else .pure, .pure, false, 51, none⟩, by rw [show (km mx) 21 = 23 from by kernel_rfl]; exact Tryd.func23, link mx _ _ _ _ (by intro t h; cases h <;> rfl), by kernel_rfl⟩
/-- strings.HasSuffix -/
theorem l22 (mx : Int) : Lk mx (22, d22) := .inl ⟨Tryd.f24, ⟨rk, fun k => if [24, 25, 26, 38, 41, 47, 56, 128, 134, 135, 140, 143, 217, 246].contains k then .opn else .pure, .pure, false, 51, none⟩, by rw [show (km mx) 22 = 24 from by kernel_rfl]; exact Tryd.func24, link mx _ _ _ _ (by intro t h; cases h <;> rfl), by kernel_rfl⟩
/-- strings.Join -/
theorem l23 (mx : Int) : Lk mx (23, Def.prim (joinF)) := .inr ⟨_, rfl, join_prim ⟨Tryd.f25, by rw [show (km mx) 23 = 25 from by kernel_rfl]; exact Tryd.func25, by kernel_rfl, by decide⟩ (by rw [show (km mx) 23 = 25 from by kernel_rfl]; exact fun bk o c xs sep w h1 h2 h3 h4 h5 => Tryd.strings_Join bk o c xs sep w h1 h2 h3 h4 h5) (by rw [show (km mx) 23 = 25 from by kernel_rfl]; exact fun a c sep w => Tryd.strings_Join_none a c sep w)⟩
/-- (*strings.Builder).WriteString -/
theorem l24 (mx : Int) : Lk mx (24, d24) := .inl ⟨Tryd.f26, ⟨rk, fun k => if [24, 25, 26, 38, 41, 47, 56, 128, 134, 135, 140, 143, 217, 246].contains k then .opn else .pure, .pure, false, 51, some 5⟩, by rw [show (km mx) 24 = 26 from by kernel_rfl]; exact Tryd.func26, link mx _ _ _ _ (by intro t h; cases h <;> rfl), by kernel_rfl⟩
/-- (*strings.Builder).Len -/
theorem l25 (mx : Int) : Lk mx (25, d25) := .inl ⟨Tryd.f27, ⟨rk, fun k => if [24, 25, 26, 38, 41, 47, 56, 128, 134, 135, 140, 143, 217, 246].contains k then .opn else .pure, .pure, false, 51, none⟩, by rw [show (km mx) 25 = 27 from by kernel_rfl]; exact Tryd.func27, link mx _ _ _ _ (by intro t h; cases h <;> rfl), by kernel_rfl⟩
/-- (*strings.Builder).String -/
theorem l26 (mx : Int) : Lk mx (26, Def.prim (strF)) := .inr ⟨_, rfl, str_prim ⟨Tryd.f28, by rw [show (km mx) 26 = 28 from by kernel_rfl]; exact Tryd.func28, by kernel_rfl, by decide⟩ (by rw [show (km mx) 26 = 28 from by kernel_rfl]; exact fun b w h => bstr_none Tryd.lays169 Tryd.Builder_Extra_169 b w h) (by rw [show (km mx) 26 = 28 from by kernel_rfl]; exact fun b c cap n l w h1 h2 h3 h4 h5 h6 h7 => bstr_some Tryd.lays169 Tryd.Builder_Extra_169 b c cap n l w h1 h2 h3 h4 h5 h6 h7)⟩
/-- slices.ContainsFunc[[]transhipment/api.Def,transhipment/api.Def] -/
theorem l27 (mx : Int) : Lk mx (27, (dConF 48)) := .inl ⟨Tryd.f29, ⟨rk, fun k => if [24, 25, 26, 38, 41, 47, 56, 128, 134, 135, 140, 143, 217, 246].contains k then .opn else .pure, .pure, false, 51, none⟩, by rw [show (km mx) 27 = 29 from by kernel_rfl]; exact Tryd.func29, link mx _ _ _ _ (by intro t h; cases h <;> rfl), by kernel_rfl⟩
/-- transhipment/block.Right$1 -/
theorem l28 (mx : Int) : Lk mx (28, d28) := .inl ⟨Tryd.f30, ⟨rk, fun k => if [24, 25, 26, 38, 41, 47, 56, 128, 134, 135, 140, 143, 217, 246].contains k then .opn else .pure, .pure, false, 51, none⟩, by rw [show (km mx) 28 = 30 from by kernel_rfl]; exact Tryd.func30, link mx _ _ _ _ (by intro t h; cases h <;> rfl), by kernel_rfl⟩
/-- transhipment/block.may -/
theorem l29 (mx : Int) : Lk mx (29, d29) := .inl ⟨Tryd.f31, ⟨rk, fun k => if [24, 25, 26, 38, 41, 47, 56, 128, 134, 135, 140, 143, 217, 246].contains k then .opn else .pure, .pure, false, 51, none⟩, by rw [show (km mx) 29 = 31 from by kernel_rfl]; exact Tryd.func31, link mx _ _ _ _ (by intro t h; cases h <;> rfl), by kernel_rfl⟩
/-- transhipment/transhipmentref06.Word -/
theorem l30 (mx : Int) : Lk mx (30, d30) := .inl ⟨Tryd.f32, ⟨rk, fun k => if [24, 25, 26, 38, 41, 47, 56, 128, 134, 135, 140, 143, 217, 246].contains k then .opn else .pure, .pure, false, 51, none⟩, by rw [show (km mx) 30 = 32 from by kernel_rfl]; exact Tryd.func32, link mx _ _ _ _ (by intro t h; cases h <;> rfl), by kernel_rfl⟩
/-- transhipment/transhipmentref06.has -/
theorem l31 (mx : Int) : Lk mx (31, d31) := .inl ⟨Tryd.f33, ⟨rk, fun k => if [24, 25, 26, 38, 41, 47, 56, 128, 134, 135, 140, 143, 217, 246].contains k then .opn else .pure, .pure, false, 51, none⟩, by rw [show (km mx) 31 = 33 from by kernel_rfl]; exact Tryd.func33, link mx _ _ _ _ (by intro t h; cases h <;> rfl), by kernel_rfl⟩
/-- transhipment/transhipmentref06.Value -/
theorem l32 (mx : Int) : Lk mx (32, d32) := .inl ⟨Tryd.f34, ⟨rk, fun k => if [24, 25, 26, 38, 41, 47, 56, 128, 134, 135, 140, 143, 217, 246].contains k then .opn else .pure, .pure, false, 51, none⟩, by rw [show (km mx) 32 = 34 from by kernel_rfl]; exact Tryd.func34, link mx _ _ _ _ (by intro t h; cases h <;> rfl), by kernel_rfl⟩
/-- slices.EqualFunc[[]transhipment/api.Def,[]transhipment/api.Def,transhipment/api.Def,transhipment/api.Def] -/
theorem l33 (mx : Int) : Lk mx (33, (dEqF 3 #[.string ⟨#[]⟩, .slice none 0 0, .slice none 0 0])) := .inl ⟨Tryd.f35, ⟨rk, fun k => if [24, 25, 26, 38, 41, 47, 56, 128, 134, 135, 140, 143, 217, 246].contains k then .opn else .pure, .pure, false, 51, none⟩, by rw [show (km mx) 33 = 35 from by kernel_rfl]; exact Tryd.func35, link mx _ _ _ _ (by intro t h; cases h <;> rfl), by kernel_rfl⟩
/-- transhipment/block.Like$1 -/
theorem l34 (mx : Int) : Lk mx (34, d34) := .inl ⟨Tryd.f36, ⟨rk, fun k => if [24, 25, 26, 38, 41, 47, 56, 128, 134, 135, 140, 143, 217, 246].contains k then .opn else .pure, .pure, false, 51, none⟩, by rw [show (km mx) 34 = 36 from by kernel_rfl]; exact Tryd.func36, link mx _ _ _ _ (by intro t h; cases h <;> rfl), by kernel_rfl⟩
/-- slices.Equal[[]string,string] -/
theorem l35 (mx : Int) : Lk mx (35, d35) := .inl ⟨Tryd.f37, ⟨rk, fun k => if [24, 25, 26, 38, 41, 47, 56, 128, 134, 135, 140, 143, 217, 246].contains k then .opn else .pure, .pure, false, 51, none⟩, by rw [show (km mx) 35 = 37 from by kernel_rfl]; exact Tryd.func37, link mx _ _ _ _ (by intro t h; cases h <;> rfl), by kernel_rfl⟩
/-- transhipment/transhipmentref01.Same -/
theorem l36 (mx : Int) : Lk mx (36, d36) := .inl ⟨Tryd.f38, ⟨rk, fun k => if [24, 25, 26, 38, 41, 47, 56, 128, 134, 135, 140, 143, 217, 246].contains k then .opn else .pure, .pure, false, 51, none⟩, by rw [show (km mx) 36 = 38 from by kernel_rfl]; exact Tryd.func38, link mx _ _ _ _ (by intro t h; cases h <;> rfl), by kernel_rfl⟩
/-- slices.Index[[]string,string] -/
theorem l37 (mx : Int) : Lk mx (37, d37) := .inl ⟨Tryd.f39, ⟨rk, fun k => if [24, 25, 26, 38, 41, 47, 56, 128, 134, 135, 140, 143, 217, 246].contains k then .opn else .pure, .pure, false, 51, none⟩, by rw [show (km mx) 37 = 39 from by kernel_rfl]; exact Tryd.func39, link mx _ _ _ _ (by intro t h; cases h <;> rfl), by kernel_rfl⟩
/-- (*transhipment/block.reader).outside -/
theorem l38 (mx : Int) : Lk mx (38, d38) := .inl ⟨Tryd.f40, ⟨rk, fun k => if [24, 25, 26, 38, 41, 47, 56, 128, 134, 135, 140, 143, 217, 246].contains k then .opn else .pure, .pure, false, 51, none⟩, by rw [show (km mx) 38 = 40 from by kernel_rfl]; exact Tryd.func40, link mx _ _ _ _ (by intro t h; cases h <;> rfl), by kernel_rfl⟩
/-- strings.Cut -/
theorem l39 (mx : Int) : Lk mx (39, d39) := .inl ⟨Tryd.f41, ⟨rk, fun k => if [24, 25, 26, 38, 41, 47, 56, 128, 134, 135, 140, 143, 217, 246].contains k then .opn else .pure, .pure, false, 51, none⟩, by rw [show (km mx) 39 = 41 from by kernel_rfl]; exact Tryd.func41, link mx _ _ _ _ (by intro t h; cases h <;> rfl), by kernel_rfl⟩
/-- transhipment/block.blank -/
theorem l40 (mx : Int) : Lk mx (40, d40) := .inl ⟨Tryd.f42, ⟨rk, fun k => if [24, 25, 26, 38, 41, 47, 56, 128, 134, 135, 140, 143, 217, 246].contains k then .opn else .pure, .pure, false, 51, none⟩, by rw [show (km mx) 40 = 42 from by kernel_rfl]; exact Tryd.func42, link mx _ _ _ _ (by intro t h; cases h <;> rfl), by kernel_rfl⟩
/-- transhipment/transhipmentref06.line -/
theorem l41 (mx : Int) : Lk mx (41, d41) := .inl ⟨Tryd.f43, ⟨rk, fun k => if [24, 25, 26, 38, 41, 47, 56, 128, 134, 135, 140, 143, 217, 246].contains k then .opn else .pure, .pure, true, 51, none⟩, by rw [show (km mx) 41 = 43 from by kernel_rfl]; exact Tryd.func43, link mx _ _ _ _ (by intro t h; cases h <;> rfl), by kernel_rfl⟩
/-- strings.genSplit -/
theorem l42 (mx : Int) : Lk mx (42, d42) := .inl ⟨Tryd.f44, ⟨rk, fun k => if [24, 25, 26, 38, 41, 47, 56, 128, 134, 135, 140, 143, 217, 246].contains k then .opn else .pure, .pure, false, 51, none⟩, by rw [show (km mx) 42 = 44 from by kernel_rfl]; exact Tryd.func44, link mx _ _ _ _ (by intro t h; cases h <;> rfl), by kernel_rfl⟩
/-- internal/stringslite.TrimSuffix -/
theorem l43 (mx : Int) : Lk mx (43, d43) := .inl ⟨Tryd.f45, ⟨rk, fun k => if [24, 25, 26, 38, 41, 47, 56, 128, 134, 135, 140, 143, 217, 246].contains k then .opn else .pure, .pure, false, 51, none⟩, by rw [show (km mx) 43 = 45 from by kernel_rfl]; exact Tryd.func45, link mx _ _ _ _ (by intro t h; cases h <;> rfl), by kernel_rfl⟩
/-- strings.Index -/
theorem l44 (mx : Int) : Lk mx (44, d44) := .inl ⟨Tryd.f46, ⟨rk, fun k => if [24, 25, 26, 38, 41, 47, 56, 128, 134, 135, 140, 143, 217, 246].contains k then .opn else .pure, .pure, false, 51, none⟩, by rw [show (km mx) 44 = 46 from by kernel_rfl]; exact Tryd.func46, link mx _ _ _ _ (by intro t h; cases h <;> rfl), by kernel_rfl⟩
/-- internal/stringslite.HasSuffix -/
theorem l45 (mx : Int) : Lk mx (45, d45) := .inl ⟨Tryd.f47, ⟨rk, fun k => if [24, 25, 26, 38, 41, 47, 56, 128, 134, 135, 140, 143, 217, 246].contains k then .opn else .pure, .pure, false, 51, none⟩, by rw [show (km mx) 45 = 47 from by kernel_rfl]; exact Tryd.func47, link mx _ _ _ _ (by intro t h; cases h <;> rfl), by kernel_rfl⟩
/-- (*strings.Builder).copyCheck -/
theorem l47 (mx : Int) : Lk mx (47, Def.prim (ccF)) := .inr ⟨_, rfl, cc_prim ⟨Tryd.f49, by rw [show (km mx) 47 = 49 from by kernel_rfl]; exact Tryd.func49, by kernel_rfl, by decide⟩ (by rw [show (km mx) 47 = 49 from by kernel_rfl]; exact fun b w h => Any.Builder_copyCheck_used { Tryd.lays156 with } Tryd.Builder_Extra_156.toX72 b w h) (by rw [show (km mx) 47 = 49 from by kernel_rfl]; exact fun b w h hs hf => Any.Builder_copyCheck_fresh { Tryd.lays156 with } Tryd.Builder_Extra_156.toX72 b w h hs hf)⟩
/-- slices.IndexFunc[[]transhipment/api.Def,transhipment/api.Def] -/
theorem l48 (mx : Int) : Lk mx (48, (dIdxF 3 (some 3))) := .inl ⟨Tryd.f50, ⟨rk, fun k => if [24, 25, 26, 38, 41, 47, 56, 128, 134, 135, 140, 143, 217, 246].contains k then .opn else .pure, .pure, false, 51, none⟩, by rw [show (km mx) 48 = 50 from by kernel_rfl]; exact Tryd.func50, link mx _ _ _ _ (by intro t h; cases h <;> rfl), by kernel_rfl⟩
/-- transhipment/block.word -/
theorem l49 (mx : Int) : Lk mx (49, d49) := .inl ⟨Tryd.f51, ⟨rk, fun k => if [24, 25, 26, 38, 41, 47, 56, 128, 134, 135, 140, 143, 217, 246].contains k then .opn else .pure, .pure, false, 51, none⟩, by rw [show (km mx) 49 = 51 from by kernel_rfl]; exact Tryd.func51, link mx _ _ _ _ (by intro t h; cases h <;> rfl), by kernel_rfl⟩
/-- slices.Contains[[]string,string] -/
theorem l50 (mx : Int) : Lk mx (50, d50) := .inl ⟨Tryd.f52, ⟨rk, fun k => if [24, 25, 26, 38, 41, 47, 56, 128, 134, 135, 140, 143, 217, 246].contains k then .opn else .pure, .pure, false, 51, none⟩, by rw [show (km mx) 50 = 52 from by kernel_rfl]; exact Tryd.func52, link mx _ _ _ _ (by intro t h; cases h <;> rfl), by kernel_rfl⟩
/-- slices.ContainsFunc[[]string,string] -/
theorem l51 (mx : Int) : Lk mx (51, (dConF 68)) := .inl ⟨Tryd.f53, ⟨rk, fun k => if [24, 25, 26, 38, 41, 47, 56, 128, 134, 135, 140, 143, 217, 246].contains k then .opn else .pure, .pure, false, 51, none⟩, by rw [show (km mx) 51 = 53 from by kernel_rfl]; exact Tryd.func53, link mx _ _ _ _ (by intro t h; cases h <;> rfl), by kernel_rfl⟩
/-- transhipment/block.may$1 -/
theorem l52 (mx : Int) : Lk mx (52, d52) := .inl ⟨Tryd.f54, ⟨rk, fun k => if [24, 25, 26, 38, 41, 47, 56, 128, 134, 135, 140, 143, 217, 246].contains k then .opn else .pure, .pure, false, 51, none⟩, by rw [show (km mx) 52 = 54 from by kernel_rfl]; exact Tryd.func54, link mx _ _ _ _ (by intro t h; cases h <;> rfl), by kernel_rfl⟩
/-- transhipment/block.value -/
theorem l53 (mx : Int) : Lk mx (53, d53) := .inl ⟨Tryd.f55, ⟨rk, fun k => if [24, 25, 26, 38, 41, 47, 56, 128, 134, 135, 140, 143, 217, 246].contains k then .opn else .pure, .pure, false, 51, none⟩, by rw [show (km mx) 53 = 55 from by kernel_rfl]; exact Tryd.func55, link mx _ _ _ _ (by intro t h; cases h <;> rfl), by kernel_rfl⟩
/-- strings.CutPrefix -/
theorem l54 (mx : Int) : Lk mx (54, d54) := .inl ⟨Tryd.f56, ⟨rk, fun k => if [24, 25, 26, 38, 41, 47, 56, 128, 134, 135, 140, 143, 217, 246].contains k then .opn else .pure, .pure, false, 51, none⟩, by rw [show (km mx) 54 = 56 from by kernel_rfl]; exact Tryd.func56, link mx _ _ _ _ (by intro t h; cases h <;> rfl), by kernel_rfl⟩
/-- strings.CutSuffix -/
theorem l55 (mx : Int) : Lk mx (55, d55) := .inl ⟨Tryd.f57, ⟨rk, fun k => if [24, 25, 26, 38, 41, 47, 56, 128, 134, 135, 140, 143, 217, 246].contains k then .opn else .pure, .pure, false, 51, none⟩, by rw [show (km mx) 55 = 57 from by kernel_rfl]; exact Tryd.func57, link mx _ _ _ _ (by intro t h; cases h <;> rfl), by kernel_rfl⟩
/-- (*transhipment/block.reader).within -/
theorem l56 (mx : Int) : Lk mx (56, d56) := .inl ⟨Tryd.f58, ⟨rk, fun k => if [24, 25, 26, 38, 41, 47, 56, 128, 134, 135, 140, 143, 217, 246].contains k then .opn else .pure, .pure, false, 51, none⟩, by rw [show (km mx) 56 = 58 from by kernel_rfl]; exact Tryd.func58, link mx _ _ _ _ (by intro t h; cases h <;> rfl), by kernel_rfl⟩
/-- internal/stringslite.Cut -/
theorem l57 (mx : Int) : Lk mx (57, d57) := .inl ⟨Tryd.f59, ⟨rk, fun k => if [24, 25, 26, 38, 41, 47, 56, 128, 134, 135, 140, 143, 217, 246].contains k then .opn else .pure, .pure, false, 51, none⟩, by rw [show (km mx) 57 = 59 from by kernel_rfl]; exact Tryd.func59, link mx _ _ _ _ (by intro t h; cases h <;> rfl), by kernel_rfl⟩
/-- strings.TrimLeft -/
theorem l58 (mx : Int) : Lk mx (58, Def.prim (pureF trimLV)) := .inr ⟨_, rfl, str2_prim ⟨Tryd.f60, by rw [show (km mx) 58 = 60 from by kernel_rfl]; exact Tryd.func60, by kernel_rfl, by decide⟩ (by rw [show (km mx) 58 = 60 from by kernel_rfl]; exact fun s t w h => Any.strings_TrimLeft_laid Tryd.lays161 (by kernel_rfl) s t w (trimC_spec h).2.1 (trimC_spec h).2.2)⟩
/-- transhipment/transhipmentref06.Begins -/
theorem l59 (mx : Int) : Lk mx (59, d59) := .inl ⟨Tryd.f61, ⟨rk, fun k => if [24, 25, 26, 38, 41, 47, 56, 128, 134, 135, 140, 143, 217, 246].contains k then .opn else .pure, .pure, false, 51, none⟩, by rw [show (km mx) 59 = 61 from by kernel_rfl]; exact Tryd.func61, link mx _ _ _ _ (by intro t h; cases h <;> rfl), by kernel_rfl⟩
/-- transhipment/transhipmentref06.Key -/
theorem l60 (mx : Int) : Lk mx (60, d60) := .inl ⟨Tryd.f62, ⟨rk, fun k => if [24, 25, 26, 38, 41, 47, 56, 128, 134, 135, 140, 143, 217, 246].contains k then .opn else .pure, .pure, false, 51, none⟩, by rw [show (km mx) 60 = 62 from by kernel_rfl]; exact Tryd.func62, link mx _ _ _ _ (by intro t h; cases h <;> rfl), by kernel_rfl⟩
/-- strings.Count -/
theorem l62 (mx : Int) : Lk mx (62, Def.prim (pureF cntF)) := .inr ⟨_, rfl, cnt_prim ⟨Tryd.f64, by rw [show (km mx) 62 = 64 from by kernel_rfl]; exact Tryd.func64, by kernel_rfl, by decide⟩ (by rw [show (km mx) 62 = 64 from by kernel_rfl]; exact fun s c w => Tryd.strings_Count_one s c w)⟩
/-- internal/stringslite.Index -/
theorem l63 (mx : Int) : Lk mx (63, Def.prim (pureF idxF)) := .inr ⟨_, rfl, idx_prim ⟨Tryd.f65, by rw [show (km mx) 63 = 65 from by kernel_rfl]; exact Tryd.func65, by kernel_rfl, by decide⟩ (show (km mx).G _ _ from ⟨rfl, rfl⟩) (by rw [show (km mx) 63 = 65 from by kernel_rfl]; exact fun s sub w h1 h2 => Tryd.stringslite_Index s sub mx w h1 h2)⟩
/-- transhipment/block.word$1 -/
theorem l66 (mx : Int) : Lk mx (66, d66) := .inl ⟨Tryd.f68, ⟨rk, fun k => if [24, 25, 26, 38, 41, 47, 56, 128, 134, 135, 140, 143, 217, 246].contains k then .opn else .pure, .pure, false, 51, none⟩, by rw [show (km mx) 66 = 68 from by kernel_rfl]; exact Tryd.func68, link mx _ _ _ _ (by intro t h; cases h <;> rfl), by kernel_rfl⟩
/-- slices.ContainsFunc[[]byte,byte] -/
theorem l67 (mx : Int) : Lk mx (67, d67) := .inl ⟨Tryd.f69, ⟨rk, fun k => if [24, 25, 26, 38, 41, 47, 56, 128, 134, 135, 140, 143, 217, 246].contains k then .opn else .pure, .pure, false, 51, none⟩, by rw [show (km mx) 67 = 69 from by kernel_rfl]; exact Tryd.func69, link mx _ _ _ _ (by intro t h; cases h <;> rfl), by kernel_rfl⟩
/-- slices.IndexFunc[[]string,string] -/
theorem l68 (mx : Int) : Lk mx (68, (dIdxF 1 none)) := .inl ⟨Tryd.f70, ⟨rk, fun k => if [24, 25, 26, 38, 41, 47, 56, 128, 134, 135, 140, 143, 217, 246].contains k then .opn else .pure, .pure, false, 51, none⟩, by rw [show (km mx) 68 = 70 from by kernel_rfl]; exact Tryd.func70, link mx _ _ _ _ (by intro t h; cases h <;> rfl), by kernel_rfl⟩
/-- transhipment/block.value$1 -/
theorem l69 (mx : Int) : Lk mx (69, d69) := .inl ⟨Tryd.f71, ⟨rk, fun k => if [24, 25, 26, 38, 41, 47, 56, 128, 134, 135, 140, 143, 217, 246].contains k then .opn else .pure, .pure, false, 51, none⟩, by rw [show (km mx) 69 = 71 from by kernel_rfl]; exact Tryd.func71, link mx _ _ _ _ (by intro t h; cases h <;> rfl), by kernel_rfl⟩
/-- strings.Trim -/
theorem l70 (mx : Int) : Lk mx (70, Def.prim (pureF trimV)) := .inr ⟨_, rfl, str2_prim ⟨Tryd.f72, by rw [show (km mx) 70 = 72 from by kernel_rfl]; exact Tryd.func72, by kernel_rfl, by decide⟩ (by rw [show (km mx) 70 = 72 from by kernel_rfl]; exact fun s t w h => Any.strings_Trim_laid Tryd.lays160 (by kernel_rfl) s t w (trimC_spec h).1 (trimC_spec h).2.1 (trimC_spec h).2.2)⟩
/-- internal/stringslite.CutPrefix -/
theorem l71 (mx : Int) : Lk mx (71, d71) := .inl ⟨Tryd.f73, ⟨rk, fun k => if [24, 25, 26, 38, 41, 47, 56, 128, 134, 135, 140, 143, 217, 246].contains k then .opn else .pure, .pure, false, 51, none⟩, by rw [show (km mx) 71 = 73 from by kernel_rfl]; exact Tryd.func73, link mx _ _ _ _ (by intro t h; cases h <;> rfl), by kernel_rfl⟩
/-- internal/stringslite.CutSuffix -/
theorem l72 (mx : Int) : Lk mx (72, d72) := .inl ⟨Tryd.f74, ⟨rk, fun k => if [24, 25, 26, 38, 41, 47, 56, 128, 134, 135, 140, 143, 217, 246].contains k then .opn else .pure, .pure, false, 51, none⟩, by rw [show (km mx) 72 = 74 from by kernel_rfl]; exact Tryd.func74, link mx _ _ _ _ (by intro t h; cases h <;> rfl), by kernel_rfl⟩
/-- slices.IndexFunc[[]byte,byte] -/
theorem l85 (mx : Int) : Lk mx (85, d85) := .inl ⟨Tryd.f87, ⟨rk, fun k => if [24, 25, 26, 38, 41, 47, 56, 128, 134, 135, 140, 143, 217, 246].contains k then .opn else .pure, .pure, false, 51, none⟩, by rw [show (km mx) 85 = 87 from by kernel_rfl]; exact Tryd.func87, link mx _ _ _ _ (by intro t h; cases h <;> rfl), by kernel_rfl⟩
/-- internal/stringslite.HasPrefix -/
theorem l89 (mx : Int) : Lk mx (89, d89) := .inl ⟨Tryd.f91, ⟨rk, fun k => if [24, 25, 26, 38, 41, 47, 56, 128, 134, 135, 140, 143, 217, 246].contains k then .opn else .pure, .pure, false, 51, none⟩, by rw [show (km mx) 89 = 91 from by kernel_rfl]; exact Tryd.func91, link mx _ _ _ _ (by intro t h; cases h <;> rfl), by kernel_rfl⟩
theorem linked (mx : Int) : Linked (km mx) Tryd.prog env := fun k D h => by
  have hm := lookup_mem h
  have hall : ∀ p ∈ en, Lk mx p := List.forall_mem_cons.2 ⟨l1 mx , List.forall_mem_cons.2 ⟨l2 mx , List.forall_mem_cons.2 ⟨l3 mx , List.forall_mem_cons.2 ⟨l4 mx , List.forall_mem_cons.2 ⟨l5 mx , List.forall_mem_cons.2 ⟨l6 mx , List.forall_mem_cons.2 ⟨l7 mx , List.forall_mem_cons.2 ⟨l8 mx , List.forall_mem_cons.2 ⟨l9 mx , List.forall_mem_cons.2 ⟨l10 mx , List.forall_mem_cons.2 ⟨l11 mx , List.forall_mem_cons.2 ⟨l12 mx , List.forall_mem_cons.2 ⟨l13 mx , List.forall_mem_cons.2 ⟨l14 mx , List.forall_mem_cons.2 ⟨l15 mx , List.forall_mem_cons.2 ⟨l16 mx , List.forall_mem_cons.2 ⟨l17 mx , List.forall_mem_cons.2 ⟨l18 mx , List.forall_mem_cons.2 ⟨l19 mx , List.forall_mem_cons.2 ⟨l20 mx , List.forall_mem_cons.2 ⟨l21 mx , List.forall_mem_cons.2 ⟨l22 mx , List.forall_mem_cons.2 ⟨l23 mx , List.forall_mem_cons.2 ⟨l24 mx , List.forall_mem_cons.2 ⟨l25 mx , List.forall_mem_cons.2 ⟨l26 mx , List.forall_mem_cons.2 ⟨l27 mx , List.forall_mem_cons.2 ⟨l28 mx , List.forall_mem_cons.2 ⟨l29 mx , List.forall_mem_cons.2 ⟨l30 mx , List.forall_mem_cons.2 ⟨l31 mx , List.forall_mem_cons.2 ⟨l32 mx , List.forall_mem_cons.2 ⟨l33 mx , List.forall_mem_cons.2 ⟨l34 mx , List.forall_mem_cons.2 ⟨l35 mx , List.forall_mem_cons.2 ⟨l36 mx , List.forall_mem_cons.2 ⟨l37 mx , List.forall_mem_cons.2 ⟨l38 mx , List.forall_mem_cons.2 ⟨l39 mx , List.forall_mem_cons.2 ⟨l40 mx , List.forall_mem_cons.2 ⟨l41 mx , List.forall_mem_cons.2 ⟨l42 mx , List.forall_mem_cons.2 ⟨l43 mx , List.forall_mem_cons.2 ⟨l44 mx , List.forall_mem_cons.2 ⟨l45 mx , List.forall_mem_cons.2 ⟨l47 mx , List.forall_mem_cons.2 ⟨l48 mx , List.forall_mem_cons.2 ⟨l49 mx , List.forall_mem_cons.2 ⟨l50 mx , List.forall_mem_cons.2 ⟨l51 mx , List.forall_mem_cons.2 ⟨l52 mx , List.forall_mem_cons.2 ⟨l53 mx , List.forall_mem_cons.2 ⟨l54 mx , List.forall_mem_cons.2 ⟨l55 mx , List.forall_mem_cons.2 ⟨l56 mx , List.forall_mem_cons.2 ⟨l57 mx , List.forall_mem_cons.2 ⟨l58 mx , List.forall_mem_cons.2 ⟨l59 mx , List.forall_mem_cons.2 ⟨l60 mx , List.forall_mem_cons.2 ⟨l62 mx , List.forall_mem_cons.2 ⟨l63 mx , List.forall_mem_cons.2 ⟨l66 mx , List.forall_mem_cons.2 ⟨l67 mx , List.forall_mem_cons.2 ⟨l68 mx , List.forall_mem_cons.2 ⟨l69 mx , List.forall_mem_cons.2 ⟨l70 mx , List.forall_mem_cons.2 ⟨l71 mx , List.forall_mem_cons.2 ⟨l72 mx , List.forall_mem_cons.2 ⟨l85 mx , List.forall_mem_cons.2 ⟨l89 mx , fun p hp => by simp at hp⟩⟩⟩⟩⟩⟩⟩⟩⟩⟩⟩⟩⟩⟩⟩⟩⟩⟩⟩⟩⟩⟩⟩⟩⟩⟩⟩⟩⟩⟩⟩⟩⟩⟩⟩⟩⟩⟩⟩⟩⟩⟩⟩⟩⟩⟩⟩⟩⟩⟩⟩⟩⟩⟩⟩⟩⟩⟩⟩⟩⟩⟩⟩⟩⟩⟩⟩⟩⟩⟩
  exact hall _ hm
theorem has_law : Has law env := by
  unfold Has law
  repeat' first | (refine List.forall_mem_cons.2 ⟨by kernel_rfl, ?_⟩) | (intro p hp; simp at hp; done)
theorem has_lax : Has lax env := by
  unfold Has lax
  repeat' first | (refine List.forall_mem_cons.2 ⟨by kernel_rfl, ?_⟩) | (intro p hp; simp at hp; done)
theorem has_lbw : Has lbw env := by
  unfold Has lbw
  repeat' first | (refine List.forall_mem_cons.2 ⟨by kernel_rfl, ?_⟩) | (intro p hp; simp at hp; done)
theorem has_lbs : Has lbs env := by
  unfold Has lbs
  repeat' first | (refine List.forall_mem_cons.2 ⟨by kernel_rfl, ?_⟩) | (intro p hp; simp at hp; done)
theorem has_lca : Has lca env := by
  unfold Has lca
  repeat' first | (refine List.forall_mem_cons.2 ⟨by kernel_rfl, ?_⟩) | (intro p hp; simp at hp; done)
theorem has_lcb : Has lcb env := by
  unfold Has lcb
  repeat' first | (refine List.forall_mem_cons.2 ⟨by kernel_rfl, ?_⟩) | (intro p hp; simp at hp; done)
theorem has_lle : Has lle env := by
  unfold Has lle
  repeat' first | (refine List.forall_mem_cons.2 ⟨by kernel_rfl, ?_⟩) | (intro p hp; simp at hp; done)
theorem has_lda : Has lda env := by
  unfold Has lda
  repeat' first | (refine List.forall_mem_cons.2 ⟨by kernel_rfl, ?_⟩) | (intro p hp; simp at hp; done)
theorem has_ldb : Has ldb env := by
  unfold Has ldb
  repeat' first | (refine List.forall_mem_cons.2 ⟨by kernel_rfl, ?_⟩) | (intro p hp; simp at hp; done)
theorem has_ldc : Has ldc env := by
  unfold Has ldc
  repeat' first | (refine List.forall_mem_cons.2 ⟨by kernel_rfl, ?_⟩) | (intro p hp; simp at hp; done)
theorem has_ldd : Has ldd env := by
  unfold Has ldd
  repeat' first | (refine List.forall_mem_cons.2 ⟨by kernel_rfl, ?_⟩) | (intro p hp; simp at hp; done)
theorem has_lde : Has lde env := by
  unfold Has lde
  repeat' first | (refine List.forall_mem_cons.2 ⟨by kernel_rfl, ?_⟩) | (intro p hp; simp at hp; done)
theorem has_ldf : Has ldf env := by
  unfold Has ldf
  repeat' first | (refine List.forall_mem_cons.2 ⟨by kernel_rfl, ?_⟩) | (intro p hp; simp at hp; done)
theorem has_ldg : Has ldg env := by
  unfold Has ldg
  repeat' first | (refine List.forall_mem_cons.2 ⟨by kernel_rfl, ?_⟩) | (intro p hp; simp at hp; done)
theorem has_ldh : Has ldh env := by
  unfold Has ldh
  repeat' first | (refine List.forall_mem_cons.2 ⟨by kernel_rfl, ?_⟩) | (intro p hp; simp at hp; done)
theorem has_ldi : Has ldi env := by
  unfold Has ldi
  repeat' first | (refine List.forall_mem_cons.2 ⟨by kernel_rfl, ?_⟩) | (intro p hp; simp at hp; done)
theorem has_lbl : Has lbl env := by
  unfold Has lbl
  repeat' first | (refine List.forall_mem_cons.2 ⟨by kernel_rfl, ?_⟩) | (intro p hp; simp at hp; done)
theorem has_ldj : Has ldj env := by
  unfold Has ldj
  repeat' first | (refine List.forall_mem_cons.2 ⟨by kernel_rfl, ?_⟩) | (intro p hp; simp at hp; done)
theorem has_ldq : Has ldq env := by
  unfold Has ldq
  repeat' first | (refine List.forall_mem_cons.2 ⟨by kernel_rfl, ?_⟩) | (intro p hp; simp at hp; done)
theorem has_ldk : Has ldk env := by
  unfold Has ldk
  repeat' first | (refine List.forall_mem_cons.2 ⟨by kernel_rfl, ?_⟩) | (intro p hp; simp at hp; done)
theorem has_ldr : Has ldr env := by
  unfold Has ldr
  repeat' first | (refine List.forall_mem_cons.2 ⟨by kernel_rfl, ?_⟩) | (intro p hp; simp at hp; done)
theorem has_ldm : Has ldm env := by
  unfold Has ldm
  repeat' first | (refine List.forall_mem_cons.2 ⟨by kernel_rfl, ?_⟩) | (intro p hp; simp at hp; done)
theorem has_ldn : Has ldn env := by
  unfold Has ldn
  repeat' first | (refine List.forall_mem_cons.2 ⟨by kernel_rfl, ?_⟩) | (intro p hp; simp at hp; done)
theorem has_ldo : Has ldo env := by
  unfold Has ldo
  repeat' first | (refine List.forall_mem_cons.2 ⟨by kernel_rfl, ?_⟩) | (intro p hp; simp at hp; done)
theorem has_ldp : Has ldp env := by
  unfold Has ldp
  repeat' first | (refine List.forall_mem_cons.2 ⟨by kernel_rfl, ?_⟩) | (intro p hp; simp at hp; done)
theorem has_lds : Has lds env := by
  unfold Has lds
  repeat' first | (refine List.forall_mem_cons.2 ⟨by kernel_rfl, ?_⟩) | (intro p hp; simp at hp; done)
theorem has_ldl : Has ldl env := by
  unfold Has ldl
  repeat' first | (refine List.forall_mem_cons.2 ⟨by kernel_rfl, ?_⟩) | (intro p hp; simp at hp; done)
theorem has_ldt : Has ldt env := by
  unfold Has ldt
  repeat' first | (refine List.forall_mem_cons.2 ⟨by kernel_rfl, ?_⟩) | (intro p hp; simp at hp; done)
theorem has_lma : Has lma env := by
  unfold Has lma
  repeat' first | (refine List.forall_mem_cons.2 ⟨by kernel_rfl, ?_⟩) | (intro p hp; simp at hp; done)
theorem has_lmb : Has lmb env := by
  unfold Has lmb
  repeat' first | (refine List.forall_mem_cons.2 ⟨by kernel_rfl, ?_⟩) | (intro p hp; simp at hp; done)
theorem has_lmc : Has lmc env := by
  unfold Has lmc
  repeat' first | (refine List.forall_mem_cons.2 ⟨by kernel_rfl, ?_⟩) | (intro p hp; simp at hp; done)
theorem has_lmd : Has lmd env := by
  unfold Has lmd
  repeat' first | (refine List.forall_mem_cons.2 ⟨by kernel_rfl, ?_⟩) | (intro p hp; simp at hp; done)
theorem has_ldv : Has ldv env := by
  unfold Has ldv
  repeat' first | (refine List.forall_mem_cons.2 ⟨by kernel_rfl, ?_⟩) | (intro p hp; simp at hp; done)
end Go.Proofs.YtdlfomiclkpibaaDoorPv
