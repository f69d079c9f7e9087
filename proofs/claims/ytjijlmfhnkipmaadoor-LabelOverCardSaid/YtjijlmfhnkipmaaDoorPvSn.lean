/-
Whether rows of labels, and rules, are the same.
-/
import Derived.Test.YtjijlmfhnkipmaaDoorPvSm
namespace Go.Proofs.YtjijlmfhnkipmaaDoorPv
open Go
set_option linter.unusedSimpArgs false
set_option linter.unusedVariables false
set_option maxHeartbeats 4000000
attribute [local go_sem ↓] e_mv e_pick e_bin e_eqs e_beq e_un e_cvi e_str e_s2b e_b2s e_box e_build e_bsl e_ld e_st e_nck e_mkf e_slcS e_slcL e_fa e_fld e_ia e_iaa e_ix e_ixa e_ext e_lenS e_lenL e_mnmx e_app e_msl e_clr e_call e_callv pa_t pa_c pa_f slcSP_str hiOf_some hiOf_none loOf_some loOf_none set_eq set_ne
attribute [local go_sem] pv pv1 simple frOf_0 frOf_1 frOf_2 frOf_3 frOf_4 frOf_5 ne_eq not_false_eq_true if_true Bool.false_eq_true if_false pbin punary Option.map_some Option.bind_some pick_and pick_or opt_true Bool.true_and Bool.and_self Bool.and_true Bool.true_or Bool.false_or Bool.not_true Bool.not_false callE pcall_eq List.map_cons List.map_nil List.append_nil List.nil_append List.cons_append mapM_cons' mapM_nil' dep_eq fz_sc fz_sl fz_em fz_fn fz_fp fz_agg fz_bx fz_ob Nat.lt_irrefl Nat.zero_lt_one Nat.lt_add_one flat clL cl Bool.or_true okc cells_agg cells_sc cells_sl cells_em cells_ob cells_fn cells_bx cells_fp List.length_cons List.length_nil Nat.zero_add and_self true_and and_true new_m new_c put_m put_c nil_m nil_c deref List.getElem?_cons_zero List.getElem?_cons_succ List.drop_zero List.drop_succ_cons List.take_succ_cons List.take_zero Nat.le_refl false_and and_false
set_option maxRecDepth 8000

/-- slices.Equal[[]transhipment/api.Label,transhipment/api.Label] -/
def d199 : Def := (.code 2 [.tmp 4] (.seq (.rg false [⟨.some 4, .none, .mv (.c (.bool false))⟩]) (.seq (.seq (.rg false [⟨.some 6, .none, .mv (.t 0)⟩, ⟨.some 7, .none, .lenL (.t 6)⟩, ⟨.some 8, .none, .mv (.t 1)⟩, ⟨.some 9, .none, .lenL (.t 8)⟩, ⟨.some 10, .none, .bin .neq (.t 7) (.t 9)⟩]) (.cond (.t 10) (.seq (.rg false [⟨.some 4, .none, .mv (.c (.bool false))⟩]) .ret) .skip)) (.seq (.seq (.rg false [⟨.some 11, .none, .mv (.t 0)⟩, ⟨.some 12, .none, .lenL (.t 11)⟩, ⟨.some 13, .none, .mv (.c (.int .i64 0))⟩]) (.block 0 (.loop (.seq (.rg false [⟨.some 14, .none, .bin .lss (.t 13) (.t 12)⟩]) (.seq (.cond (.t 14) .skip (.exit 0)) (.seq (.block 1 (.seq (.rg false [⟨.some 15, .none, .mv (.t 13)⟩, ⟨.some 5, .none, .mv (.t 15)⟩]) (.seq (.rg true [⟨.some 16, .none, .mv (.t 0)⟩, ⟨.some 17, .none, .mv (.t 5)⟩, ⟨.some 18, .none, .ia 2 (.t 16) (.t 17)⟩, ⟨.some 19, .none, .ld (.some 2) (.t 18)⟩, ⟨.some 20, .none, .mv (.t 1)⟩, ⟨.some 21, .none, .mv (.t 5)⟩, ⟨.some 22, .none, .ia 2 (.t 20) (.t 21)⟩, ⟨.some 23, .none, .ld (.some 2) (.t 22)⟩, ⟨.some 24, .none, .eqs true [2, 2] (.t 19) (.t 23)⟩]) (.cond (.t 24) (.seq (.rg false [⟨.some 4, .none, .mv (.c (.bool false))⟩]) .ret) .skip)))) (.rg false [⟨.some 25, .none, .bin .add (.t 13) (.c (.int .i64 1))⟩, ⟨.some 13, .none, .mv (.t 25)⟩]))))))) (.seq (.rg false [⟨.some 4, .none, .mv (.c (.bool true))⟩]) .ret)))))
/-- transhipment/transhipmentref03.Same -/
def d192 : Def := (.code 2 [.tmp 4] (.seq (.rg false [⟨.some 4, .none, .mv (.c (.bool false))⟩]) (.seq (.seq (.rg false [⟨.some 6, .none, .mv (.t 0)⟩, ⟨.some 7, .none, .lenL (.t 6)⟩, ⟨.some 8, .none, .mv (.t 1)⟩, ⟨.some 9, .none, .lenL (.t 8)⟩, ⟨.some 10, .none, .bin .neq (.t 7) (.t 9)⟩]) (.cond (.t 10) (.seq (.rg false [⟨.some 4, .none, .mv (.c (.bool false))⟩]) .ret) .skip)) (.seq (.seq (.rg false [⟨.some 11, .none, .mv (.t 0)⟩, ⟨.some 12, .none, .lenL (.t 11)⟩, ⟨.some 13, .none, .mv (.c (.int .i64 0))⟩]) (.block 0 (.loop (.seq (.rg false [⟨.some 14, .none, .bin .lss (.t 13) (.t 12)⟩]) (.seq (.cond (.t 14) .skip (.exit 0)) (.seq (.block 1 (.seq (.rg false [⟨.some 15, .none, .mv (.t 13)⟩, ⟨.some 5, .none, .mv (.t 15)⟩]) (.seq (.rg true [⟨.some 16, .none, .mv (.t 0)⟩, ⟨.some 17, .none, .mv (.t 5)⟩, ⟨.some 18, .none, .ia 2 (.t 16) (.t 17)⟩, ⟨.some 19, .none, .ld (.some 2) (.t 18)⟩, ⟨.some 20, .none, .mv (.t 1)⟩, ⟨.some 21, .none, .mv (.t 5)⟩, ⟨.some 22, .none, .ia 2 (.t 20) (.t 21)⟩, ⟨.some 23, .none, .ld (.some 2) (.t 22)⟩, ⟨.some 24, .none, .eqs true [2, 2] (.t 19) (.t 23)⟩]) (.cond (.t 24) (.seq (.rg false [⟨.some 4, .none, .mv (.c (.bool false))⟩]) .ret) .skip)))) (.rg false [⟨.some 25, .none, .bin .add (.t 13) (.c (.int .i64 1))⟩, ⟨.some 13, .none, .mv (.t 25)⟩]))))))) (.seq (.rg false [⟨.some 4, .none, .mv (.c (.bool true))⟩]) .ret)))))
/-- transhipment/rules.Like -/
def d188 : Def := (.code 2 [.tmp 4] (.seq (.rg false [⟨.some 2, .none, .box (.t 0)⟩, ⟨.some 3, .none, .box (.t 1)⟩, ⟨.some 4, .none, .mv (.c (.bool false))⟩]) (.seq (.rg false [⟨.some 6, .none, .fa 7 (.t 2)⟩, ⟨.some 7, .none, .ld .none (.t 6)⟩, ⟨.some 8, .none, .fa 7 (.t 3)⟩, ⟨.some 9, .none, .ld .none (.t 8)⟩, ⟨.some 10, .none, .call 199 .pure [.t 7, .t 9]⟩, ⟨.some 5, .none, .mv (.t 10)⟩]) (.seq (.rg false [⟨.some 11, .none, .mv (.t 5)⟩, ⟨.some 12, .none, .mv (.t 11)⟩, ⟨.some 13, .some (12, true), .fa 0 (.t 2)⟩, ⟨.some 14, .some (12, true), .ld .none (.t 13)⟩, ⟨.some 15, .some (12, true), .fa 0 (.t 3)⟩, ⟨.some 16, .some (12, true), .ld .none (.t 15)⟩, ⟨.some 17, .some (12, true), .bin .eql (.t 14) (.t 16)⟩, ⟨.some 18, .none, .pick (.t 12) (.t 17) (.c (.bool false))⟩, ⟨.some 19, .none, .mv (.t 18)⟩, ⟨.some 20, .some (19, true), .fa 1 (.t 2)⟩, ⟨.some 21, .some (19, true), .ld .none (.t 20)⟩, ⟨.some 22, .some (19, true), .fa 1 (.t 3)⟩, ⟨.some 23, .some (19, true), .ld .none (.t 22)⟩, ⟨.some 24, .some (19, true), .bin .eql (.t 21) (.t 23)⟩, ⟨.some 25, .none, .pick (.t 19) (.t 24) (.c (.bool false))⟩, ⟨.some 26, .none, .mv (.t 25)⟩, ⟨.some 27, .some (26, true), .fa 2 (.t 2)⟩, ⟨.some 28, .some (26, true), .ld .none (.t 27)⟩, ⟨.some 29, .some (26, true), .fa 2 (.t 3)⟩, ⟨.some 30, .some (26, true), .ld .none (.t 29)⟩, ⟨.some 31, .some (26, true), .bin .eql (.t 28) (.t 30)⟩, ⟨.some 32, .none, .pick (.t 26) (.t 31) (.c (.bool false))⟩, ⟨.some 33, .none, .mv (.t 32)⟩, ⟨.some 34, .some (33, true), .fa 3 (.t 2)⟩, ⟨.some 35, .some (33, true), .ld .none (.t 34)⟩, ⟨.some 36, .some (33, true), .fa 3 (.t 3)⟩, ⟨.some 37, .some (33, true), .ld .none (.t 36)⟩, ⟨.some 38, .some (33, true), .bin .eql (.t 35) (.t 37)⟩, ⟨.some 39, .none, .pick (.t 33) (.t 38) (.c (.bool false))⟩, ⟨.some 40, .none, .mv (.t 39)⟩, ⟨.some 41, .some (40, true), .fa 4 (.t 2)⟩, ⟨.some 42, .some (40, true), .ld .none (.t 41)⟩, ⟨.some 43, .some (40, true), .fa 4 (.t 3)⟩, ⟨.some 44, .some (40, true), .ld .none (.t 43)⟩, ⟨.some 45, .some (40, true), .bin .eql (.t 42) (.t 44)⟩, ⟨.some 46, .none, .pick (.t 40) (.t 45) (.c (.bool false))⟩, ⟨.some 47, .none, .mv (.t 46)⟩, ⟨.some 48, .some (47, true), .fa 5 (.t 2)⟩, ⟨.some 49, .some (47, true), .ld .none (.t 48)⟩, ⟨.some 50, .some (47, true), .fa 5 (.t 3)⟩, ⟨.some 51, .some (47, true), .ld .none (.t 50)⟩, ⟨.some 52, .some (47, true), .bin .eql (.t 49) (.t 51)⟩, ⟨.some 53, .none, .pick (.t 47) (.t 52) (.c (.bool false))⟩, ⟨.some 54, .none, .mv (.t 53)⟩, ⟨.some 55, .some (54, true), .fa 6 (.t 2)⟩, ⟨.some 56, .some (54, true), .ld .none (.t 55)⟩, ⟨.some 57, .some (54, true), .fa 6 (.t 3)⟩, ⟨.some 58, .some (54, true), .ld .none (.t 57)⟩, ⟨.some 59, .some (54, true), .bin .eql (.t 56) (.t 58)⟩, ⟨.some 60, .none, .pick (.t 54) (.t 59) (.c (.bool false))⟩, ⟨.some 4, .none, .mv (.t 60)⟩]) .ret))))
/-- transhipment/transhipmentref08.Like -/
def d189 : Def := (.code 2 [.tmp 4] (.seq (.rg false [⟨.some 2, .none, .box (.t 0)⟩, ⟨.some 3, .none, .box (.t 1)⟩, ⟨.some 4, .none, .mv (.c (.bool false))⟩]) (.seq (.rg false [⟨.some 5, .none, .fa 0 (.t 2)⟩, ⟨.some 6, .none, .ld .none (.t 5)⟩, ⟨.some 7, .none, .fa 0 (.t 3)⟩, ⟨.some 8, .none, .ld .none (.t 7)⟩, ⟨.some 9, .none, .bin .eql (.t 6) (.t 8)⟩, ⟨.some 10, .none, .mv (.t 9)⟩, ⟨.some 11, .some (10, true), .fa 1 (.t 2)⟩, ⟨.some 12, .some (10, true), .ld .none (.t 11)⟩, ⟨.some 13, .some (10, true), .fa 1 (.t 3)⟩, ⟨.some 14, .some (10, true), .ld .none (.t 13)⟩, ⟨.some 15, .some (10, true), .bin .eql (.t 12) (.t 14)⟩, ⟨.some 16, .none, .pick (.t 10) (.t 15) (.c (.bool false))⟩, ⟨.some 17, .none, .mv (.t 16)⟩, ⟨.some 18, .some (17, true), .fa 2 (.t 2)⟩, ⟨.some 19, .some (17, true), .ld .none (.t 18)⟩, ⟨.some 20, .some (17, true), .fa 2 (.t 3)⟩, ⟨.some 21, .some (17, true), .ld .none (.t 20)⟩, ⟨.some 22, .some (17, true), .bin .eql (.t 19) (.t 21)⟩, ⟨.some 23, .none, .pick (.t 17) (.t 22) (.c (.bool false))⟩, ⟨.some 24, .none, .mv (.t 23)⟩, ⟨.some 25, .some (24, true), .fa 3 (.t 2)⟩, ⟨.some 26, .some (24, true), .ld .none (.t 25)⟩, ⟨.some 27, .some (24, true), .fa 3 (.t 3)⟩, ⟨.some 28, .some (24, true), .ld .none (.t 27)⟩, ⟨.some 29, .some (24, true), .bin .eql (.t 26) (.t 28)⟩, ⟨.some 30, .none, .pick (.t 24) (.t 29) (.c (.bool false))⟩, ⟨.some 31, .none, .mv (.t 30)⟩, ⟨.some 32, .some (31, true), .fa 4 (.t 2)⟩, ⟨.some 33, .some (31, true), .ld .none (.t 32)⟩, ⟨.some 34, .some (31, true), .fa 4 (.t 3)⟩, ⟨.some 35, .some (31, true), .ld .none (.t 34)⟩, ⟨.some 36, .some (31, true), .bin .eql (.t 33) (.t 35)⟩, ⟨.some 37, .none, .pick (.t 31) (.t 36) (.c (.bool false))⟩, ⟨.some 38, .none, .mv (.t 37)⟩, ⟨.some 39, .some (38, true), .fa 5 (.t 2)⟩, ⟨.some 40, .some (38, true), .ld .none (.t 39)⟩, ⟨.some 41, .some (38, true), .fa 5 (.t 3)⟩, ⟨.some 42, .some (38, true), .ld .none (.t 41)⟩, ⟨.some 43, .some (38, true), .bin .eql (.t 40) (.t 42)⟩, ⟨.some 44, .none, .pick (.t 38) (.t 43) (.c (.bool false))⟩, ⟨.some 45, .none, .mv (.t 44)⟩, ⟨.some 46, .some (45, true), .fa 6 (.t 2)⟩, ⟨.some 47, .some (45, true), .ld .none (.t 46)⟩, ⟨.some 48, .some (45, true), .fa 6 (.t 3)⟩, ⟨.some 49, .some (45, true), .ld .none (.t 48)⟩, ⟨.some 50, .some (45, true), .bin .eql (.t 47) (.t 49)⟩, ⟨.some 51, .none, .pick (.t 45) (.t 50) (.c (.bool false))⟩, ⟨.some 52, .none, .mv (.t 51)⟩, ⟨.some 53, .some (52, true), .fa 7 (.t 2)⟩, ⟨.some 54, .some (52, true), .ld .none (.t 53)⟩, ⟨.some 55, .some (52, true), .fa 7 (.t 3)⟩, ⟨.some 56, .some (52, true), .ld .none (.t 55)⟩, ⟨.some 57, .some (52, true), .call 192 .pure [.t 54, .t 56]⟩, ⟨.some 58, .none, .pick (.t 52) (.t 57) (.c (.bool false))⟩, ⟨.some 4, .none, .mv (.t 58)⟩]) .ret)))

def ln0 : List (Nat × Def) := [(192, d192)]
def ln : List (Nat × Def) := [(199, d199), (188, d188), (189, d189)]

section
variable {env : Nat → Option Def} {fr : Fr} {σ : St} {K : Fr → St → Prop} {Q : X → Fr → St → Prop}

def eqLab (x y : Lab) : Bool := x.1.toList == y.1.toList && x.2.toList == y.2.toList

theorem ba_ext {a b : ByteArray} (h : a.toList = b.toList) : a = b := by
  rw [ByteArray.toList_eq, ByteArray.toList_eq] at h
  exact Go.WideShapes.bytes_inj h

theorem eqLab_iff {x y : Lab} : eqLab x y = true ↔ x = y := by
  obtain ⟨a, b⟩ := x
  obtain ⟨c, d⟩ := y
  simp only [eqLab, Bool.and_eq_true, beq_iff_eq, Prod.mk.injEq]
  exact ⟨fun h => ⟨ba_ext h.1, ba_ext h.2⟩, fun h => ⟨by rw [h.1], by rw [h.2]⟩⟩

theorem eqL_labs (a b c d : ByteArray) : eqL [2, 2] [.sc (.string a), .sc (.string b)] [.sc (.string c), .sc (.string d)] = some (eqLab (a, b) (c, d)) := by
  simp only [eqL, eq1, Option.bind_some, eqLab]
  cases a.toList == c.toList <;> cases b.toList == d.toList <;> rfl

def sameL (a b : List Lab) : Bool := decide (a = b)

theorem sameL_hit {a b : List Lab} {i : Nat} (hi : i < a.length) (h : eqLab (nth a i) (nth b i) = false) : sameL a b = false := by
  unfold sameL
  rw [decide_eq_false_iff_not]
  rintro rfl
  rw [eqLab_iff.2 rfl] at h
  cases h

theorem sameL_all {a b : List Lab} (hl : a.length = b.length) (h : ∀ i, i < a.length → eqLab (nth a i) (nth b i) = true) : sameL a b = true := by
  unfold sameL
  rw [decide_eq_true_iff]
  refine List.ext_getElem hl fun i h1 h2 => ?_
  have := eqLab_iff.1 (h i h1)
  unfold nth at this
  rw [List.getElem?_eq_getElem h1, List.getElem?_eq_getElem h2] at this
  exact this

theorem same_g {k0 : Nat} (hk0 : env k0 = some d199) {a b : List Lab} (hn : a.length ≤ 9223372036854775807) : AV env k0 [.sl (labs a), .sl (labs b)] = some (.sc (.bool (sameL a b))) := by
  refine AV_wp hk0 rfl ?_
  have hla := labs_len a
  have hlb := labs_len b
  (repeat' first
    | refine w_seq ?_
    | refine w_rg ?_
    | refine wo_nil ?_
    | refine s_plain (by simp only [go_sem, Nat.reduceEqDiff, Nat.reduceAdd, Nat.reduceLeDiff, hla, hlb]; first | done | rfl) ?_
    | refine s_void (by simp only [go_sem, Nat.reduceEqDiff, Nat.reduceAdd, Nat.reduceLeDiff, hla, hlb]; first | done | rfl) ?_
    | refine s_guard (by simp only [go_sem, Nat.reduceEqDiff, Nat.reduceAdd, Nat.reduceLeDiff, hla, hlb]; first | done | rfl) ?_
    | refine g_skU ?_
    | refine g_T (by intro hb; simp only [go_sem, Nat.reduceEqDiff, Nat.reduceAdd, Nat.reduceLeDiff, hla, hlb, hb]; first | done | rfl) ?_
    | refine g_F (by intro hb; simp only [go_sem, Nat.reduceEqDiff, Nat.reduceAdd, Nat.reduceLeDiff, hla, hlb, hb]; first | done | rfl) ?_
    | refine g_gT (by intro hb hc; simp only [go_sem, Nat.reduceEqDiff, Nat.reduceAdd, Nat.reduceLeDiff, hla, hlb, hb, hc]; first | done | rfl) ?_
    | refine g_gF (by intro hb hc; simp only [go_sem, Nat.reduceEqDiff, Nat.reduceAdd, Nat.reduceLeDiff, hla, hlb, hb, hc]; first | done | rfl) ?_
    | refine g_skT ?_
    | refine g_skF ?_
    | refine g_goT (by simp only [go_sem, Nat.reduceEqDiff, Nat.reduceAdd, Nat.reduceLeDiff, hla, hlb]; first | done | rfl) ?_
    | refine g_goF (by simp only [go_sem, Nat.reduceEqDiff, Nat.reduceAdd, Nat.reduceLeDiff, hla, hlb]; first | done | rfl) ?_
    )
  by_cases hl : a.length = b.length
  · have hc : ((a.length : Int) != (b.length : Int)) = false := by rw [hl]; simp
    (repeat' first
    | refine w_seq ?_
    | refine w_rg ?_
    | refine wo_nil ?_
    | refine s_plain (by simp only [go_sem, Nat.reduceEqDiff, Nat.reduceAdd, Nat.reduceLeDiff, hc]; first | done | rfl) ?_
    | refine s_void (by simp only [go_sem, Nat.reduceEqDiff, Nat.reduceAdd, Nat.reduceLeDiff, hc]; first | done | rfl) ?_
    | refine s_guard (by simp only [go_sem, Nat.reduceEqDiff, Nat.reduceAdd, Nat.reduceLeDiff, hc]; first | done | rfl) ?_
    | refine g_skU ?_
    | refine g_T (by intro hb; simp only [go_sem, Nat.reduceEqDiff, Nat.reduceAdd, Nat.reduceLeDiff, hc, hb]; first | done | rfl) ?_
    | refine g_F (by intro hb; simp only [go_sem, Nat.reduceEqDiff, Nat.reduceAdd, Nat.reduceLeDiff, hc, hb]; first | done | rfl) ?_
    | refine g_gT (by intro hb hc; simp only [go_sem, Nat.reduceEqDiff, Nat.reduceAdd, Nat.reduceLeDiff, hc, hb, hc]; first | done | rfl) ?_
    | refine g_gF (by intro hb hc; simp only [go_sem, Nat.reduceEqDiff, Nat.reduceAdd, Nat.reduceLeDiff, hc, hb, hc]; first | done | rfl) ?_
    | refine g_skT ?_
    | refine g_skF ?_
    | refine g_goT (by simp only [go_sem, Nat.reduceEqDiff, Nat.reduceAdd, Nat.reduceLeDiff, hc]; first | done | rfl) ?_
    | refine g_goF (by simp only [go_sem, Nat.reduceEqDiff, Nat.reduceAdd, Nat.reduceLeDiff, hc]; first | done | rfl) ?_
    | refine w_condT (by simp only [go_sem, Nat.reduceEqDiff, Nat.reduceAdd, Nat.reduceLeDiff, hc]; first | done | rfl) ?_
    | refine w_condF (by simp only [go_sem, Nat.reduceEqDiff, Nat.reduceAdd, Nat.reduceLeDiff, hc]; first | done | rfl) ?_
    | refine w_skip ?_
    | refine w_exit ?_
    | refine w_ret ?_
    )
    (repeat' first
    | refine w_seq ?_
    | refine w_rg ?_
    | refine wo_nil ?_
    | refine s_plain (by simp only [go_sem, Nat.reduceEqDiff, Nat.reduceAdd, Nat.reduceLeDiff, hla]; first | done | rfl) ?_
    | refine s_void (by simp only [go_sem, Nat.reduceEqDiff, Nat.reduceAdd, Nat.reduceLeDiff, hla]; first | done | rfl) ?_
    | refine s_guard (by simp only [go_sem, Nat.reduceEqDiff, Nat.reduceAdd, Nat.reduceLeDiff, hla]; first | done | rfl) ?_
    | refine g_skU ?_
    | refine g_T (by intro hb; simp only [go_sem, Nat.reduceEqDiff, Nat.reduceAdd, Nat.reduceLeDiff, hla, hb]; first | done | rfl) ?_
    | refine g_F (by intro hb; simp only [go_sem, Nat.reduceEqDiff, Nat.reduceAdd, Nat.reduceLeDiff, hla, hb]; first | done | rfl) ?_
    | refine g_gT (by intro hb hc; simp only [go_sem, Nat.reduceEqDiff, Nat.reduceAdd, Nat.reduceLeDiff, hla, hb, hc]; first | done | rfl) ?_
    | refine g_gF (by intro hb hc; simp only [go_sem, Nat.reduceEqDiff, Nat.reduceAdd, Nat.reduceLeDiff, hla, hb, hc]; first | done | rfl) ?_
    | refine g_skT ?_
    | refine g_skF ?_
    | refine g_goT (by simp only [go_sem, Nat.reduceEqDiff, Nat.reduceAdd, Nat.reduceLeDiff, hla]; first | done | rfl) ?_
    | refine g_goF (by simp only [go_sem, Nat.reduceEqDiff, Nat.reduceAdd, Nat.reduceLeDiff, hla]; first | done | rfl) ?_
    )
    refine w_block (w_range a.length hn (fun i fr σ => fr 0 = .sl (labs a) ∧ fr 1 = .sl (labs b) ∧ ∀ j, j < i → eqLab (nth a j) (nth b j) = true) (by decide) ?_ ?_ ?_ _ _ ?_ ?_ ?_)
    · rintro i fr σ v ⟨h0, h1, h2⟩
      refine ⟨⟨?_, ?_, h2⟩, ⟨?_, ?_, h2⟩, ⟨?_, ?_, h2⟩⟩ <;> simp only [go_sem, Nat.reduceEqDiff, Nat.reduceAdd, Nat.reduceLeDiff, h0, h1]
    · rintro i fr σ hi ⟨h0, h1, h3⟩ hti htn
      have hx := labs_at (List.getElem?_eq_getElem hi)
      have hy := labs_at (List.getElem?_eq_getElem (show i < b.length by omega))
      have hna : nth a i = a[i] := by unfold nth; rw [List.getElem?_eq_getElem hi]; rfl
      have hnb : nth b i = b[i] := by unfold nth; rw [List.getElem?_eq_getElem (show i < b.length by omega)]; rfl
      have e1 : (0 : Int) ≤ (i : Int) ∧ (i : Int) < (a.length : Int) := by omega
      have e2 : (0 : Int) ≤ (i : Int) ∧ (i : Int) < (b.length : Int) := by omega
      refine w_block ?_
      simp only [lab] at hx hy
      have hq := eqL_labs a[i].1 a[i].2 b[i].1 b[i].2
      (repeat' first
    | refine w_seq ?_
    | refine w_rg ?_
    | refine wo_nil ?_
    | refine s_plain (by simp only [go_sem, Nat.reduceEqDiff, Nat.reduceAdd, Nat.reduceLeDiff, h0, h1, hti, e1, e2, hla, hlb, Int.toNat_natCast, hx, hy, hq]; first | done | rfl) ?_
    | refine s_void (by simp only [go_sem, Nat.reduceEqDiff, Nat.reduceAdd, Nat.reduceLeDiff, h0, h1, hti, e1, e2, hla, hlb, Int.toNat_natCast, hx, hy, hq]; first | done | rfl) ?_
    | refine s_guard (by simp only [go_sem, Nat.reduceEqDiff, Nat.reduceAdd, Nat.reduceLeDiff, h0, h1, hti, e1, e2, hla, hlb, Int.toNat_natCast, hx, hy, hq]; first | done | rfl) ?_
    | refine g_skU ?_
    | refine g_T (by intro hb; simp only [go_sem, Nat.reduceEqDiff, Nat.reduceAdd, Nat.reduceLeDiff, h0, h1, hti, e1, e2, hla, hlb, Int.toNat_natCast, hx, hy, hq, hb]; first | done | rfl) ?_
    | refine g_F (by intro hb; simp only [go_sem, Nat.reduceEqDiff, Nat.reduceAdd, Nat.reduceLeDiff, h0, h1, hti, e1, e2, hla, hlb, Int.toNat_natCast, hx, hy, hq, hb]; first | done | rfl) ?_
    | refine g_gT (by intro hb hc; simp only [go_sem, Nat.reduceEqDiff, Nat.reduceAdd, Nat.reduceLeDiff, h0, h1, hti, e1, e2, hla, hlb, Int.toNat_natCast, hx, hy, hq, hb, hc]; first | done | rfl) ?_
    | refine g_gF (by intro hb hc; simp only [go_sem, Nat.reduceEqDiff, Nat.reduceAdd, Nat.reduceLeDiff, h0, h1, hti, e1, e2, hla, hlb, Int.toNat_natCast, hx, hy, hq, hb, hc]; first | done | rfl) ?_
    | refine g_skT ?_
    | refine g_skF ?_
    | refine g_goT (by simp only [go_sem, Nat.reduceEqDiff, Nat.reduceAdd, Nat.reduceLeDiff, h0, h1, hti, e1, e2, hla, hlb, Int.toNat_natCast, hx, hy, hq]; first | done | rfl) ?_
    | refine g_goF (by simp only [go_sem, Nat.reduceEqDiff, Nat.reduceAdd, Nat.reduceLeDiff, h0, h1, hti, e1, e2, hla, hlb, Int.toNat_natCast, hx, hy, hq]; first | done | rfl) ?_
    )
      cases hpi : eqLab (nth a i) (nth b i) with
      | false =>
        have hc : (eqLab (a[i].1, a[i].2) (b[i].1, b[i].2) != true) = true := by rw [hna, hnb] at hpi; rw [show eqLab (a[i].1, a[i].2) (b[i].1, b[i].2) = false from hpi]; rfl
        (repeat' first
    | refine w_seq ?_
    | refine w_rg ?_
    | refine wo_nil ?_
    | refine s_plain (by simp only [go_sem, Nat.reduceEqDiff, Nat.reduceAdd, Nat.reduceLeDiff, hc]; first | done | rfl) ?_
    | refine s_void (by simp only [go_sem, Nat.reduceEqDiff, Nat.reduceAdd, Nat.reduceLeDiff, hc]; first | done | rfl) ?_
    | refine s_guard (by simp only [go_sem, Nat.reduceEqDiff, Nat.reduceAdd, Nat.reduceLeDiff, hc]; first | done | rfl) ?_
    | refine g_skU ?_
    | refine g_T (by intro hb; simp only [go_sem, Nat.reduceEqDiff, Nat.reduceAdd, Nat.reduceLeDiff, hc, hb]; first | done | rfl) ?_
    | refine g_F (by intro hb; simp only [go_sem, Nat.reduceEqDiff, Nat.reduceAdd, Nat.reduceLeDiff, hc, hb]; first | done | rfl) ?_
    | refine g_gT (by intro hb hc; simp only [go_sem, Nat.reduceEqDiff, Nat.reduceAdd, Nat.reduceLeDiff, hc, hb, hc]; first | done | rfl) ?_
    | refine g_gF (by intro hb hc; simp only [go_sem, Nat.reduceEqDiff, Nat.reduceAdd, Nat.reduceLeDiff, hc, hb, hc]; first | done | rfl) ?_
    | refine g_skT ?_
    | refine g_skF ?_
    | refine g_goT (by simp only [go_sem, Nat.reduceEqDiff, Nat.reduceAdd, Nat.reduceLeDiff, hc]; first | done | rfl) ?_
    | refine g_goF (by simp only [go_sem, Nat.reduceEqDiff, Nat.reduceAdd, Nat.reduceLeDiff, hc]; first | done | rfl) ?_
    | refine w_condT (by simp only [go_sem, Nat.reduceEqDiff, Nat.reduceAdd, Nat.reduceLeDiff, hc]; first | done | rfl) ?_
    | refine w_condF (by simp only [go_sem, Nat.reduceEqDiff, Nat.reduceAdd, Nat.reduceLeDiff, hc]; first | done | rfl) ?_
    | refine w_skip ?_
    | refine w_exit ?_
    | refine w_ret ?_
    )
        exact ⟨.inr rfl, by simp only [go_sem, Nat.reduceEqDiff, Nat.reduceAdd, Nat.reduceLeDiff, retOf, resOf, sameL_hit hi hpi]⟩
      | true =>
        have hc : (eqLab (a[i].1, a[i].2) (b[i].1, b[i].2) != true) = false := by rw [hna, hnb] at hpi; rw [show eqLab (a[i].1, a[i].2) (b[i].1, b[i].2) = true from hpi]; rfl
        (repeat' first
    | refine w_seq ?_
    | refine w_rg ?_
    | refine wo_nil ?_
    | refine s_plain (by simp only [go_sem, Nat.reduceEqDiff, Nat.reduceAdd, Nat.reduceLeDiff, hc]; first | done | rfl) ?_
    | refine s_void (by simp only [go_sem, Nat.reduceEqDiff, Nat.reduceAdd, Nat.reduceLeDiff, hc]; first | done | rfl) ?_
    | refine s_guard (by simp only [go_sem, Nat.reduceEqDiff, Nat.reduceAdd, Nat.reduceLeDiff, hc]; first | done | rfl) ?_
    | refine g_skU ?_
    | refine g_T (by intro hb; simp only [go_sem, Nat.reduceEqDiff, Nat.reduceAdd, Nat.reduceLeDiff, hc, hb]; first | done | rfl) ?_
    | refine g_F (by intro hb; simp only [go_sem, Nat.reduceEqDiff, Nat.reduceAdd, Nat.reduceLeDiff, hc, hb]; first | done | rfl) ?_
    | refine g_gT (by intro hb hc; simp only [go_sem, Nat.reduceEqDiff, Nat.reduceAdd, Nat.reduceLeDiff, hc, hb, hc]; first | done | rfl) ?_
    | refine g_gF (by intro hb hc; simp only [go_sem, Nat.reduceEqDiff, Nat.reduceAdd, Nat.reduceLeDiff, hc, hb, hc]; first | done | rfl) ?_
    | refine g_skT ?_
    | refine g_skF ?_
    | refine g_goT (by simp only [go_sem, Nat.reduceEqDiff, Nat.reduceAdd, Nat.reduceLeDiff, hc]; first | done | rfl) ?_
    | refine g_goF (by simp only [go_sem, Nat.reduceEqDiff, Nat.reduceAdd, Nat.reduceLeDiff, hc]; first | done | rfl) ?_
    | refine w_condT (by simp only [go_sem, Nat.reduceEqDiff, Nat.reduceAdd, Nat.reduceLeDiff, hc]; first | done | rfl) ?_
    | refine w_condF (by simp only [go_sem, Nat.reduceEqDiff, Nat.reduceAdd, Nat.reduceLeDiff, hc]; first | done | rfl) ?_
    | refine w_skip ?_
    | refine w_exit ?_
    | refine w_ret ?_
    )
        refine ⟨⟨?_, ?_, fun j hj => ?_⟩, ?_, ?_⟩
        · simp only [go_sem, Nat.reduceEqDiff, Nat.reduceAdd, Nat.reduceLeDiff, h0]
        · simp only [go_sem, Nat.reduceEqDiff, Nat.reduceAdd, Nat.reduceLeDiff, h1]
        · by_cases hji : j = i
          · rw [hji]; exact hpi
          · exact h3 j (by omega)
        · simp only [go_sem, Nat.reduceEqDiff, Nat.reduceAdd, Nat.reduceLeDiff, hti]
        · simp only [go_sem, Nat.reduceEqDiff, Nat.reduceAdd, Nat.reduceLeDiff, htn]
    · rintro fr σ ⟨h0, h1, h3⟩
      simp only [if_true]
      (repeat' first
    | refine w_seq ?_
    | refine w_rg ?_
    | refine wo_nil ?_
    | refine s_plain (by simp only [go_sem, Nat.reduceEqDiff, Nat.reduceAdd, Nat.reduceLeDiff, h0]; first | done | rfl) ?_
    | refine s_void (by simp only [go_sem, Nat.reduceEqDiff, Nat.reduceAdd, Nat.reduceLeDiff, h0]; first | done | rfl) ?_
    | refine s_guard (by simp only [go_sem, Nat.reduceEqDiff, Nat.reduceAdd, Nat.reduceLeDiff, h0]; first | done | rfl) ?_
    | refine g_skU ?_
    | refine g_T (by intro hb; simp only [go_sem, Nat.reduceEqDiff, Nat.reduceAdd, Nat.reduceLeDiff, h0, hb]; first | done | rfl) ?_
    | refine g_F (by intro hb; simp only [go_sem, Nat.reduceEqDiff, Nat.reduceAdd, Nat.reduceLeDiff, h0, hb]; first | done | rfl) ?_
    | refine g_gT (by intro hb hc; simp only [go_sem, Nat.reduceEqDiff, Nat.reduceAdd, Nat.reduceLeDiff, h0, hb, hc]; first | done | rfl) ?_
    | refine g_gF (by intro hb hc; simp only [go_sem, Nat.reduceEqDiff, Nat.reduceAdd, Nat.reduceLeDiff, h0, hb, hc]; first | done | rfl) ?_
    | refine g_skT ?_
    | refine g_skF ?_
    | refine g_goT (by simp only [go_sem, Nat.reduceEqDiff, Nat.reduceAdd, Nat.reduceLeDiff, h0]; first | done | rfl) ?_
    | refine g_goF (by simp only [go_sem, Nat.reduceEqDiff, Nat.reduceAdd, Nat.reduceLeDiff, h0]; first | done | rfl) ?_
    | refine w_condT (by simp only [go_sem, Nat.reduceEqDiff, Nat.reduceAdd, Nat.reduceLeDiff, h0]; first | done | rfl) ?_
    | refine w_condF (by simp only [go_sem, Nat.reduceEqDiff, Nat.reduceAdd, Nat.reduceLeDiff, h0]; first | done | rfl) ?_
    | refine w_skip ?_
    | refine w_exit ?_
    | refine w_ret ?_
    )
      exact ⟨.inr rfl, by simp only [go_sem, Nat.reduceEqDiff, Nat.reduceAdd, Nat.reduceLeDiff, retOf, resOf, sameL_all hl h3]⟩
    · refine ⟨?_, ?_, fun j hj => by omega⟩ <;> simp only [go_sem, Nat.reduceEqDiff, Nat.reduceAdd, Nat.reduceLeDiff]
    · simp only [go_sem, Nat.reduceEqDiff, Nat.reduceAdd, Nat.reduceLeDiff]
    · simp only [go_sem, Nat.reduceEqDiff, Nat.reduceAdd, Nat.reduceLeDiff, hla]
  · have hc : ((a.length : Int) != (b.length : Int)) = true := by simp only [bne_iff_ne, ne_eq]; omega
    (repeat' first
    | refine w_seq ?_
    | refine w_rg ?_
    | refine wo_nil ?_
    | refine s_plain (by simp only [go_sem, Nat.reduceEqDiff, Nat.reduceAdd, Nat.reduceLeDiff, hc]; first | done | rfl) ?_
    | refine s_void (by simp only [go_sem, Nat.reduceEqDiff, Nat.reduceAdd, Nat.reduceLeDiff, hc]; first | done | rfl) ?_
    | refine s_guard (by simp only [go_sem, Nat.reduceEqDiff, Nat.reduceAdd, Nat.reduceLeDiff, hc]; first | done | rfl) ?_
    | refine g_skU ?_
    | refine g_T (by intro hb; simp only [go_sem, Nat.reduceEqDiff, Nat.reduceAdd, Nat.reduceLeDiff, hc, hb]; first | done | rfl) ?_
    | refine g_F (by intro hb; simp only [go_sem, Nat.reduceEqDiff, Nat.reduceAdd, Nat.reduceLeDiff, hc, hb]; first | done | rfl) ?_
    | refine g_gT (by intro hb hc; simp only [go_sem, Nat.reduceEqDiff, Nat.reduceAdd, Nat.reduceLeDiff, hc, hb, hc]; first | done | rfl) ?_
    | refine g_gF (by intro hb hc; simp only [go_sem, Nat.reduceEqDiff, Nat.reduceAdd, Nat.reduceLeDiff, hc, hb, hc]; first | done | rfl) ?_
    | refine g_skT ?_
    | refine g_skF ?_
    | refine g_goT (by simp only [go_sem, Nat.reduceEqDiff, Nat.reduceAdd, Nat.reduceLeDiff, hc]; first | done | rfl) ?_
    | refine g_goF (by simp only [go_sem, Nat.reduceEqDiff, Nat.reduceAdd, Nat.reduceLeDiff, hc]; first | done | rfl) ?_
    | refine w_condT (by simp only [go_sem, Nat.reduceEqDiff, Nat.reduceAdd, Nat.reduceLeDiff, hc]; first | done | rfl) ?_
    | refine w_condF (by simp only [go_sem, Nat.reduceEqDiff, Nat.reduceAdd, Nat.reduceLeDiff, hc]; first | done | rfl) ?_
    | refine w_skip ?_
    | refine w_exit ?_
    | refine w_ret ?_
    )
    have hz : sameL a b = false := by
      unfold sameL
      rw [decide_eq_false_iff_not]
      rintro rfl
      exact hl rfl
    exact ⟨.inr rfl, by simp only [go_sem, Nat.reduceEqDiff, Nat.reduceAdd, Nat.reduceLeDiff, retOf, resOf, hz]⟩

theorem a199 (N : Has ln env) {a b : List Lab} (hn : a.length ≤ 9223372036854775807) : AV env 199 [.sl (labs a), .sl (labs b)] = some (.sc (.bool (sameL a b))) := same_g (N (199, d199) (by simp [ln])) hn
theorem a192 (N : Has ln0 env) {a b : List Lab} (hn : a.length ≤ 9223372036854775807) : AV env 192 [.sl (labs a), .sl (labs b)] = some (.sc (.bool (sameL a b))) := same_g (N (192, d192) (by simp [ln0])) hn

def likeR (a b : Rule) : Bool := sameL a.labels b.labels && a.name.toList == b.name.toList && a.metric.toList == b.metric.toList && a.how == b.how && a.limit == b.limit && a.for_ == b.for_ && a.keep == b.keep && a.tries == b.tries

theorem likeR_refl (a : Rule) : likeR a a = true := by simp [likeR, sameL]

theorem a188 (N : Has ln env) {a b : Rule} (hn : a.labels.length ≤ 9223372036854775807) : AV env 188 [rule a, rule b] = some (.sc (.bool (likeR a b))) := by
  have h := a199 N (b := b.labels) hn
  refine AV_wp (N (188, d188) (by simp [ln])) rfl ?_
  unfold rule
  (repeat' first
    | refine w_seq ?_
    | refine w_rg ?_
    | refine wo_nil ?_
    | refine s_plain (by simp only [go_sem, Nat.reduceEqDiff, Nat.reduceAdd, Nat.reduceLeDiff, h]; first | done | rfl) ?_
    | refine s_void (by simp only [go_sem, Nat.reduceEqDiff, Nat.reduceAdd, Nat.reduceLeDiff, h]; first | done | rfl) ?_
    | refine s_guard (by simp only [go_sem, Nat.reduceEqDiff, Nat.reduceAdd, Nat.reduceLeDiff, h]; first | done | rfl) ?_
    | refine g_skU ?_
    | refine g_T (by intro hb; simp only [go_sem, Nat.reduceEqDiff, Nat.reduceAdd, Nat.reduceLeDiff, h, hb]; first | done | rfl) ?_
    | refine g_F (by intro hb; simp only [go_sem, Nat.reduceEqDiff, Nat.reduceAdd, Nat.reduceLeDiff, h, hb]; first | done | rfl) ?_
    | refine g_gT (by intro hb hc; simp only [go_sem, Nat.reduceEqDiff, Nat.reduceAdd, Nat.reduceLeDiff, h, hb, hc]; first | done | rfl) ?_
    | refine g_gF (by intro hb hc; simp only [go_sem, Nat.reduceEqDiff, Nat.reduceAdd, Nat.reduceLeDiff, h, hb, hc]; first | done | rfl) ?_
    | refine g_skT ?_
    | refine g_skF ?_
    | refine g_goT (by simp only [go_sem, Nat.reduceEqDiff, Nat.reduceAdd, Nat.reduceLeDiff, h]; first | done | rfl) ?_
    | refine g_goF (by simp only [go_sem, Nat.reduceEqDiff, Nat.reduceAdd, Nat.reduceLeDiff, h]; first | done | rfl) ?_
    | refine w_condT (by simp only [go_sem, Nat.reduceEqDiff, Nat.reduceAdd, Nat.reduceLeDiff, h]; first | done | rfl) ?_
    | refine w_condF (by simp only [go_sem, Nat.reduceEqDiff, Nat.reduceAdd, Nat.reduceLeDiff, h]; first | done | rfl) ?_
    | refine w_skip ?_
    | refine w_exit ?_
    | refine w_ret ?_
    )
  exact ⟨.inr rfl, by simp only [go_sem, Nat.reduceEqDiff, Nat.reduceAdd, Nat.reduceLeDiff, retOf, resOf]; rfl⟩

theorem a189 (N0 : Has ln0 env) (N : Has ln env) {a b : Rule} (hn : a.labels.length ≤ 9223372036854775807) : AV env 189 [rule a, rule b] = some (.sc (.bool (likeR a b))) := by
  have h := a192 N0 (b := b.labels) hn
  refine AV_wp (N (189, d189) (by simp [ln])) rfl ?_
  unfold rule
  (repeat' first
    | refine w_seq ?_
    | refine w_rg ?_
    | refine wo_nil ?_
    | refine s_plain (by simp only [go_sem, Nat.reduceEqDiff, Nat.reduceAdd, Nat.reduceLeDiff, h]; first | done | rfl) ?_
    | refine s_void (by simp only [go_sem, Nat.reduceEqDiff, Nat.reduceAdd, Nat.reduceLeDiff, h]; first | done | rfl) ?_
    | refine s_guard (by simp only [go_sem, Nat.reduceEqDiff, Nat.reduceAdd, Nat.reduceLeDiff, h]; first | done | rfl) ?_
    | refine g_skU ?_
    | refine g_T (by intro hb; simp only [go_sem, Nat.reduceEqDiff, Nat.reduceAdd, Nat.reduceLeDiff, h, hb]; first | done | rfl) ?_
    | refine g_F (by intro hb; simp only [go_sem, Nat.reduceEqDiff, Nat.reduceAdd, Nat.reduceLeDiff, h, hb]; first | done | rfl) ?_
    | refine g_gT (by intro hb hc; simp only [go_sem, Nat.reduceEqDiff, Nat.reduceAdd, Nat.reduceLeDiff, h, hb, hc]; first | done | rfl) ?_
    | refine g_gF (by intro hb hc; simp only [go_sem, Nat.reduceEqDiff, Nat.reduceAdd, Nat.reduceLeDiff, h, hb, hc]; first | done | rfl) ?_
    | refine g_skT ?_
    | refine g_skF ?_
    | refine g_goT (by simp only [go_sem, Nat.reduceEqDiff, Nat.reduceAdd, Nat.reduceLeDiff, h]; first | done | rfl) ?_
    | refine g_goF (by simp only [go_sem, Nat.reduceEqDiff, Nat.reduceAdd, Nat.reduceLeDiff, h]; first | done | rfl) ?_
    | refine w_condT (by simp only [go_sem, Nat.reduceEqDiff, Nat.reduceAdd, Nat.reduceLeDiff, h]; first | done | rfl) ?_
    | refine w_condF (by simp only [go_sem, Nat.reduceEqDiff, Nat.reduceAdd, Nat.reduceLeDiff, h]; first | done | rfl) ?_
    | refine w_skip ?_
    | refine w_exit ?_
    | refine w_ret ?_
    )
  refine ⟨.inr rfl, ?_⟩
  simp only [go_sem, Nat.reduceEqDiff, Nat.reduceAdd, Nat.reduceLeDiff, retOf, resOf]
  refine congrArg (fun b => some (PV.sc (.bool b))) ?_
  unfold likeR
  generalize sameL a.labels b.labels = s
  cases s <;> simp

end
end Go.Proofs.YtjijlmfhnkipmaaDoorPv
