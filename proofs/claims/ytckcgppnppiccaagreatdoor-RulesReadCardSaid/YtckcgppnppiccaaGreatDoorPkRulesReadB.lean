/-
Own texts of the proof, merged: part 2.
-/
import Derived.Test.YtckcgppnppiccaaGreatDoorPkRulesReadA
import Derived.Test.YtckcgppnppiccaaGreatDoorPvP
import Derived.WideAt
namespace Go.Proofs.YtckcgppnppiccaaGreatDoorPv
open Go
set_option linter.unusedSimpArgs false
set_option linter.unusedVariables false
set_option maxHeartbeats 4000000
set_option maxRecDepth 8000
attribute [local go_sem ↓] e_mv e_pick e_bin e_eqs e_beq e_un e_cvi e_str e_s2b e_b2s e_box e_build e_bsl e_ld e_st e_nck e_mkf e_slcS e_slcL e_fa e_fld e_ia e_iaa e_ix e_ixa e_ext e_lenS e_lenL e_mnmx e_app e_appb e_bbx e_msl e_clr e_call e_callv e_slcA e_mkm e_mput e_mget e_mlen e_mdel pa_t pa_c pa_f slcSP_str hiOf_some hiOf_none loOf_some loOf_none set_eq set_ne
attribute [local go_sem] pv pv1 simple frOf_0 frOf_1 frOf_2 frOf_3 frOf_4 frOf_5 ne_eq not_false_eq_true if_true Bool.false_eq_true if_false pbin punary Option.map_some Option.bind_some pick_and pick_or opt_true Bool.true_and Bool.and_self Bool.and_true Bool.true_or Bool.false_or Bool.not_true Bool.not_false callE pcall_eq List.map_cons List.map_nil List.append_nil List.nil_append List.cons_append mapM_cons' mapM_nil' dep_eq fz_sc fz_sl fz_em fz_fn fz_fp fz_agg fz_tu fz_bx fz_ob Nat.lt_irrefl Nat.zero_lt_one Nat.lt_add_one flat clL cl Bool.or_true okc_sc okc_em okc_sl okc_ob okc_bx okc_fp okc_fn okc_agg okc_ifc cells_agg cells_sc cells_sl cells_em cells_ob cells_fn cells_bx cells_fp List.length_cons List.length_nil Nat.zero_add and_self true_and and_true new_m new_c put_m put_c nil_m nil_c nil_mm new_mm put_mm newM_m newM_c newM_mm putM_m putM_c putM_mm mkeyV_1 mkeyV_2 mapAt_eq deref List.getElem?_cons_zero List.getElem?_cons_succ List.drop_zero List.drop_succ_cons List.take_succ_cons List.take_zero Nat.le_refl false_and and_false decide_true decide_false lenP_em lenP_nil lenP_sl lenP_ob Int.ofNat_zero
def d199 : Def := (.code 2 [.tmp 4] (.seq (.rg false [⟨.some 4, .none, .mv (.c (.bool false))⟩]) (.seq (.seq (.rg false [⟨.some 6, .none, .mv (.t 0)⟩, ⟨.some 7, .none, .lenL (.t 6)⟩, ⟨.some 8, .none, .mv (.t 1)⟩, ⟨.some 9, .none, .lenL (.t 8)⟩, ⟨.some 10, .none, .bin .neq (.t 7) (.t 9)⟩]) (.cond (.t 10) (.seq (.rg false [⟨.some 4, .none, .mv (.c (.bool false))⟩]) .ret) .skip)) (.seq (.seq (.rg false [⟨.some 11, .none, .mv (.t 0)⟩, ⟨.some 12, .none, .lenL (.t 11)⟩, ⟨.some 13, .none, .mv (.c (.int .i64 0))⟩]) (.block 0 (.loop (.seq (.rg false [⟨.some 14, .none, .bin .lss (.t 13) (.t 12)⟩]) (.seq (.cond (.t 14) .skip (.exit 0)) (.seq (.block 1 (.seq (.rg false [⟨.some 15, .none, .mv (.t 13)⟩, ⟨.some 5, .none, .mv (.t 15)⟩]) (.seq (.rg true [⟨.some 16, .none, .mv (.t 0)⟩, ⟨.some 17, .none, .mv (.t 5)⟩, ⟨.some 18, .none, .ia 2 (.t 16) (.t 17)⟩, ⟨.some 19, .none, .ld (.some 2) (.t 18)⟩, ⟨.some 20, .none, .mv (.t 1)⟩, ⟨.some 21, .none, .mv (.t 5)⟩, ⟨.some 22, .none, .ia 2 (.t 20) (.t 21)⟩, ⟨.some 23, .none, .ld (.some 2) (.t 22)⟩, ⟨.some 24, .none, .eqs true [2, 2] (.t 19) (.t 23)⟩]) (.cond (.t 24) (.seq (.rg false [⟨.some 4, .none, .mv (.c (.bool false))⟩]) .ret) .skip)))) (.rg false [⟨.some 25, .none, .bin .add (.t 13) (.c (.int .i64 1))⟩, ⟨.some 13, .none, .mv (.t 25)⟩]))))))) (.seq (.rg false [⟨.some 4, .none, .mv (.c (.bool true))⟩]) .ret)))))
def d192 : Def := (.code 2 [.tmp 4] (.seq (.rg false [⟨.some 4, .none, .mv (.c (.bool false))⟩]) (.seq (.seq (.rg false [⟨.some 6, .none, .mv (.t 0)⟩, ⟨.some 7, .none, .lenL (.t 6)⟩, ⟨.some 8, .none, .mv (.t 1)⟩, ⟨.some 9, .none, .lenL (.t 8)⟩, ⟨.some 10, .none, .bin .neq (.t 7) (.t 9)⟩]) (.cond (.t 10) (.seq (.rg false [⟨.some 4, .none, .mv (.c (.bool false))⟩]) .ret) .skip)) (.seq (.seq (.rg false [⟨.some 11, .none, .mv (.t 0)⟩, ⟨.some 12, .none, .lenL (.t 11)⟩, ⟨.some 13, .none, .mv (.c (.int .i64 0))⟩]) (.block 0 (.loop (.seq (.rg false [⟨.some 14, .none, .bin .lss (.t 13) (.t 12)⟩]) (.seq (.cond (.t 14) .skip (.exit 0)) (.seq (.block 1 (.seq (.rg false [⟨.some 15, .none, .mv (.t 13)⟩, ⟨.some 5, .none, .mv (.t 15)⟩]) (.seq (.rg true [⟨.some 16, .none, .mv (.t 0)⟩, ⟨.some 17, .none, .mv (.t 5)⟩, ⟨.some 18, .none, .ia 2 (.t 16) (.t 17)⟩, ⟨.some 19, .none, .ld (.some 2) (.t 18)⟩, ⟨.some 20, .none, .mv (.t 1)⟩, ⟨.some 21, .none, .mv (.t 5)⟩, ⟨.some 22, .none, .ia 2 (.t 20) (.t 21)⟩, ⟨.some 23, .none, .ld (.some 2) (.t 22)⟩, ⟨.some 24, .none, .eqs true [2, 2] (.t 19) (.t 23)⟩]) (.cond (.t 24) (.seq (.rg false [⟨.some 4, .none, .mv (.c (.bool false))⟩]) .ret) .skip)))) (.rg false [⟨.some 25, .none, .bin .add (.t 13) (.c (.int .i64 1))⟩, ⟨.some 13, .none, .mv (.t 25)⟩]))))))) (.seq (.rg false [⟨.some 4, .none, .mv (.c (.bool true))⟩]) .ret)))))
def d188 : Def := (.code 2 [.tmp 4] (.seq (.rg false [⟨.some 2, .none, .box (.t 0)⟩, ⟨.some 3, .none, .box (.t 1)⟩, ⟨.some 4, .none, .mv (.c (.bool false))⟩]) (.seq (.rg false [⟨.some 6, .none, .fa 7 (.t 2)⟩, ⟨.some 7, .none, .ld .none (.t 6)⟩, ⟨.some 8, .none, .fa 7 (.t 3)⟩, ⟨.some 9, .none, .ld .none (.t 8)⟩, ⟨.some 10, .none, .call 199 .pure [.t 7, .t 9]⟩, ⟨.some 5, .none, .mv (.t 10)⟩]) (.seq (.rg false [⟨.some 11, .none, .mv (.t 5)⟩, ⟨.some 12, .none, .mv (.t 11)⟩, ⟨.some 13, .some (12, true), .fa 0 (.t 2)⟩, ⟨.some 14, .some (12, true), .ld .none (.t 13)⟩, ⟨.some 15, .some (12, true), .fa 0 (.t 3)⟩, ⟨.some 16, .some (12, true), .ld .none (.t 15)⟩, ⟨.some 17, .some (12, true), .bin .eql (.t 14) (.t 16)⟩, ⟨.some 18, .none, .pick (.t 12) (.t 17) (.c (.bool false))⟩, ⟨.some 19, .none, .mv (.t 18)⟩, ⟨.some 20, .some (19, true), .fa 1 (.t 2)⟩, ⟨.some 21, .some (19, true), .ld .none (.t 20)⟩, ⟨.some 22, .some (19, true), .fa 1 (.t 3)⟩, ⟨.some 23, .some (19, true), .ld .none (.t 22)⟩, ⟨.some 24, .some (19, true), .bin .eql (.t 21) (.t 23)⟩, ⟨.some 25, .none, .pick (.t 19) (.t 24) (.c (.bool false))⟩, ⟨.some 26, .none, .mv (.t 25)⟩, ⟨.some 27, .some (26, true), .fa 2 (.t 2)⟩, ⟨.some 28, .some (26, true), .ld .none (.t 27)⟩, ⟨.some 29, .some (26, true), .fa 2 (.t 3)⟩, ⟨.some 30, .some (26, true), .ld .none (.t 29)⟩, ⟨.some 31, .some (26, true), .bin .eql (.t 28) (.t 30)⟩, ⟨.some 32, .none, .pick (.t 26) (.t 31) (.c (.bool false))⟩, ⟨.some 33, .none, .mv (.t 32)⟩, ⟨.some 34, .some (33, true), .fa 3 (.t 2)⟩, ⟨.some 35, .some (33, true), .ld .none (.t 34)⟩, ⟨.some 36, .some (33, true), .fa 3 (.t 3)⟩, ⟨.some 37, .some (33, true), .ld .none (.t 36)⟩, ⟨.some 38, .some (33, true), .bin .eql (.t 35) (.t 37)⟩, ⟨.some 39, .none, .pick (.t 33) (.t 38) (.c (.bool false))⟩, ⟨.some 40, .none, .mv (.t 39)⟩, ⟨.some 41, .some (40, true), .fa 4 (.t 2)⟩, ⟨.some 42, .some (40, true), .ld .none (.t 41)⟩, ⟨.some 43, .some (40, true), .fa 4 (.t 3)⟩, ⟨.some 44, .some (40, true), .ld .none (.t 43)⟩, ⟨.some 45, .some (40, true), .bin .eql (.t 42) (.t 44)⟩, ⟨.some 46, .none, .pick (.t 40) (.t 45) (.c (.bool false))⟩, ⟨.some 47, .none, .mv (.t 46)⟩, ⟨.some 48, .some (47, true), .fa 5 (.t 2)⟩, ⟨.some 49, .some (47, true), .ld .none (.t 48)⟩, ⟨.some 50, .some (47, true), .fa 5 (.t 3)⟩, ⟨.some 51, .some (47, true), .ld .none (.t 50)⟩, ⟨.some 52, .some (47, true), .bin .eql (.t 49) (.t 51)⟩, ⟨.some 53, .none, .pick (.t 47) (.t 52) (.c (.bool false))⟩, ⟨.some 54, .none, .mv (.t 53)⟩, ⟨.some 55, .some (54, true), .fa 6 (.t 2)⟩, ⟨.some 56, .some (54, true), .ld .none (.t 55)⟩, ⟨.some 57, .some (54, true), .fa 6 (.t 3)⟩, ⟨.some 58, .some (54, true), .ld .none (.t 57)⟩, ⟨.some 59, .some (54, true), .bin .eql (.t 56) (.t 58)⟩, ⟨.some 60, .none, .pick (.t 54) (.t 59) (.c (.bool false))⟩, ⟨.some 4, .none, .mv (.t 60)⟩]) .ret))))
def d189 : Def := (.code 2 [.tmp 4] (.seq (.rg false [⟨.some 2, .none, .box (.t 0)⟩, ⟨.some 3, .none, .box (.t 1)⟩, ⟨.some 4, .none, .mv (.c (.bool false))⟩]) (.seq (.rg false [⟨.some 5, .none, .fa 0 (.t 2)⟩, ⟨.some 6, .none, .ld .none (.t 5)⟩, ⟨.some 7, .none, .fa 0 (.t 3)⟩, ⟨.some 8, .none, .ld .none (.t 7)⟩, ⟨.some 9, .none, .bin .eql (.t 6) (.t 8)⟩, ⟨.some 10, .none, .mv (.t 9)⟩, ⟨.some 11, .some (10, true), .fa 1 (.t 2)⟩, ⟨.some 12, .some (10, true), .ld .none (.t 11)⟩, ⟨.some 13, .some (10, true), .fa 1 (.t 3)⟩, ⟨.some 14, .some (10, true), .ld .none (.t 13)⟩, ⟨.some 15, .some (10, true), .bin .eql (.t 12) (.t 14)⟩, ⟨.some 16, .none, .pick (.t 10) (.t 15) (.c (.bool false))⟩, ⟨.some 17, .none, .mv (.t 16)⟩, ⟨.some 18, .some (17, true), .fa 2 (.t 2)⟩, ⟨.some 19, .some (17, true), .ld .none (.t 18)⟩, ⟨.some 20, .some (17, true), .fa 2 (.t 3)⟩, ⟨.some 21, .some (17, true), .ld .none (.t 20)⟩, ⟨.some 22, .some (17, true), .bin .eql (.t 19) (.t 21)⟩, ⟨.some 23, .none, .pick (.t 17) (.t 22) (.c (.bool false))⟩, ⟨.some 24, .none, .mv (.t 23)⟩, ⟨.some 25, .some (24, true), .fa 3 (.t 2)⟩, ⟨.some 26, .some (24, true), .ld .none (.t 25)⟩, ⟨.some 27, .some (24, true), .fa 3 (.t 3)⟩, ⟨.some 28, .some (24, true), .ld .none (.t 27)⟩, ⟨.some 29, .some (24, true), .bin .eql (.t 26) (.t 28)⟩, ⟨.some 30, .none, .pick (.t 24) (.t 29) (.c (.bool false))⟩, ⟨.some 31, .none, .mv (.t 30)⟩, ⟨.some 32, .some (31, true), .fa 4 (.t 2)⟩, ⟨.some 33, .some (31, true), .ld .none (.t 32)⟩, ⟨.some 34, .some (31, true), .fa 4 (.t 3)⟩, ⟨.some 35, .some (31, true), .ld .none (.t 34)⟩, ⟨.some 36, .some (31, true), .bin .eql (.t 33) (.t 35)⟩, ⟨.some 37, .none, .pick (.t 31) (.t 36) (.c (.bool false))⟩, ⟨.some 38, .none, .mv (.t 37)⟩, ⟨.some 39, .some (38, true), .fa 5 (.t 2)⟩, ⟨.some 40, .some (38, true), .ld .none (.t 39)⟩, ⟨.some 41, .some (38, true), .fa 5 (.t 3)⟩, ⟨.some 42, .some (38, true), .ld .none (.t 41)⟩, ⟨.some 43, .some (38, true), .bin .eql (.t 40) (.t 42)⟩, ⟨.some 44, .none, .pick (.t 38) (.t 43) (.c (.bool false))⟩, ⟨.some 45, .none, .mv (.t 44)⟩, ⟨.some 46, .some (45, true), .fa 6 (.t 2)⟩, ⟨.some 47, .some (45, true), .ld .none (.t 46)⟩, ⟨.some 48, .some (45, true), .fa 6 (.t 3)⟩, ⟨.some 49, .some (45, true), .ld .none (.t 48)⟩, ⟨.some 50, .some (45, true), .bin .eql (.t 47) (.t 49)⟩, ⟨.some 51, .none, .pick (.t 45) (.t 50) (.c (.bool false))⟩, ⟨.some 52, .none, .mv (.t 51)⟩, ⟨.some 53, .some (52, true), .fa 7 (.t 2)⟩, ⟨.some 54, .some (52, true), .ld .none (.t 53)⟩, ⟨.some 55, .some (52, true), .fa 7 (.t 3)⟩, ⟨.some 56, .some (52, true), .ld .none (.t 55)⟩, ⟨.some 57, .some (52, true), .call 192 .pure [.t 54, .t 56]⟩, ⟨.some 58, .none, .pick (.t 52) (.t 57) (.c (.bool false))⟩, ⟨.some 4, .none, .mv (.t 58)⟩]) .ret)))
def ln0 : List (Nat × Def) := [(192, d192)]
def ln : List (Nat × Def) := [(199, d199), (188, d188), (189, d189)]
section
variable {env : Nat → Option Def} {fr : Fr} {σ : St} {K : Fr → St → Prop} {Q : X → Fr → St → Prop}
def eqLab (x y : Lab) : Bool := x.1.toList == y.1.toList && x.2.toList == y.2.toList
theorem ba_ext {a b : ByteArray} (h : a.toList = b.toList) : a = b := by
  rw [ByteArray.toList_eq, ByteArray.toList_eq] at h
  exact Go.WideShapes.bytes_inj h
theorem eqLab_iff {x y : Lab} : eqLab x y = true ↔ x = y := by
  obtain ⟨a, b⟩ := x
  obtain ⟨c, d⟩ := y
  simp only [eqLab, Bool.and_eq_true, beq_iff_eq, Prod.mk.injEq]
  exact ⟨fun h => ⟨ba_ext h.1, ba_ext h.2⟩, fun h => ⟨by rw [h.1], by rw [h.2]⟩⟩
theorem eqL_labs (a b c d : ByteArray) : eqL [2, 2] [.sc (.string a), .sc (.string b)] [.sc (.string c), .sc (.string d)] = some (eqLab (a, b) (c, d)) := by
  simp only [eqL, eq1, Option.bind_some, eqLab]
  cases a.toList == c.toList <;> cases b.toList == d.toList <;> rfl
def sameL (a b : List Lab) : Bool := decide (a = b)
theorem sameL_hit {a b : List Lab} {i : Nat} (hi : i < a.length) (h : eqLab (nth a i) (nth b i) = false) : sameL a b = false := by
  unfold sameL
  rw [decide_eq_false_iff_not]
  rintro rfl
  rw [eqLab_iff.2 rfl] at h
  cases h
theorem sameL_all {a b : List Lab} (hl : a.length = b.length) (h : ∀ i, i < a.length → eqLab (nth a i) (nth b i) = true) : sameL a b = true := by
  unfold sameL
  rw [decide_eq_true_iff]
  refine List.ext_getElem hl fun i h1 h2 => ?_
  have := eqLab_iff.1 (h i h1)
  unfold nth at this
  rw [List.getElem?_eq_getElem h1, List.getElem?_eq_getElem h2] at this
  exact this
theorem same_g {k0 : Nat} (hk0 : env k0 = some d199) {a b : List Lab} (hn : a.length ≤ 9223372036854775807) : AV env k0 [.sl (labs a), .sl (labs b)] = some (.sc (.bool (sameL a b))) := by
  refine AV_wp hk0 rfl ?_
  have hla := labs_len a
  have hlb := labs_len b
  (repeat' first
    | refine w_seq ?_ | refine w_rg ?_ | refine wo_nil ?_ | refine g_skU ?_ | refine g_skT ?_ | refine g_skF ?_
    | ((first | apply s_plain | apply s_void | apply s_guard | apply g_goT | apply g_goF); · simp only [go_sem, Nat.reduceEqDiff, Nat.reduceAdd, Nat.reduceLeDiff, hla, hlb]; (first | done | rfl))
    | ((first | apply g_T | apply g_F | apply g_gT | apply g_gF); · intro q1_; (first | intro q2_ | have q2_ := q1_); simp only [go_sem, Nat.reduceEqDiff, Nat.reduceAdd, Nat.reduceLeDiff, hla, hlb, q1_, q2_]; (first | done | rfl))
    | fail
    )
  by_cases hl : a.length = b.length
  · have hc : ((a.length : Int) != (b.length : Int)) = false := by rw [hl]; simp
    (repeat' first
    | refine w_seq ?_ | refine w_rg ?_ | refine wo_nil ?_ | refine g_skU ?_ | refine g_skT ?_ | refine g_skF ?_
    | ((first | apply s_plain | apply s_void | apply s_guard | apply g_goT | apply g_goF); · simp only [go_sem, Nat.reduceEqDiff, Nat.reduceAdd, Nat.reduceLeDiff, hc]; (first | done | rfl))
    | ((first | apply g_T | apply g_F | apply g_gT | apply g_gF); · intro q1_; (first | intro q2_ | have q2_ := q1_); simp only [go_sem, Nat.reduceEqDiff, Nat.reduceAdd, Nat.reduceLeDiff, hc, q1_, q2_]; (first | done | rfl))
    | (apply w_condX; · simp only [go_sem, Nat.reduceEqDiff, Nat.reduceAdd, Nat.reduceLeDiff, hc]; (first | done | rfl)); (first | refine wcd_T ?_ | refine wcd_F ?_)
    | refine w_skip ?_ | refine w_exit ?_ | refine w_ret ?_
    | fail
    )
    (repeat' first
    | refine w_seq ?_ | refine w_rg ?_ | refine wo_nil ?_ | refine g_skU ?_ | refine g_skT ?_ | refine g_skF ?_
    | ((first | apply s_plain | apply s_void | apply s_guard | apply g_goT | apply g_goF); · simp only [go_sem, Nat.reduceEqDiff, Nat.reduceAdd, Nat.reduceLeDiff, hla]; (first | done | rfl))
    | ((first | apply g_T | apply g_F | apply g_gT | apply g_gF); · intro q1_; (first | intro q2_ | have q2_ := q1_); simp only [go_sem, Nat.reduceEqDiff, Nat.reduceAdd, Nat.reduceLeDiff, hla, q1_, q2_]; (first | done | rfl))
    | fail
    )
    refine w_block (w_range a.length hn (fun i fr σ => fr 0 = .sl (labs a) ∧ fr 1 = .sl (labs b) ∧ ∀ j, j < i → eqLab (nth a j) (nth b j) = true) (by decide) ?_ ?_ ?_ _ _ ?_ ?_ ?_)
    · rintro i fr σ v ⟨h0, h1, h2⟩
      refine ⟨⟨?_, ?_, h2⟩, ⟨?_, ?_, h2⟩, ⟨?_, ?_, h2⟩⟩ <;> simp only [go_sem, Nat.reduceEqDiff, Nat.reduceAdd, Nat.reduceLeDiff, h0, h1]
    · rintro i fr σ hi ⟨h0, h1, h3⟩ hti htn
      have hx := labs_at (List.getElem?_eq_getElem hi)
      have hy := labs_at (List.getElem?_eq_getElem (show i < b.length by omega))
      have hna : nth a i = a[i] := by unfold nth; rw [List.getElem?_eq_getElem hi]; rfl
      have hnb : nth b i = b[i] := by unfold nth; rw [List.getElem?_eq_getElem (show i < b.length by omega)]; rfl
      have e1 : (0 : Int) ≤ (i : Int) ∧ (i : Int) < (a.length : Int) := by omega
      have e2 : (0 : Int) ≤ (i : Int) ∧ (i : Int) < (b.length : Int) := by omega
      refine w_block ?_
      simp only [lab] at hx hy
      have hq := eqL_labs a[i].1 a[i].2 b[i].1 b[i].2
      (repeat' first
    | refine w_seq ?_ | refine w_rg ?_ | refine wo_nil ?_ | refine g_skU ?_ | refine g_skT ?_ | refine g_skF ?_
    | ((first | apply s_plain | apply s_void | apply s_guard | apply g_goT | apply g_goF); · simp only [go_sem, Nat.reduceEqDiff, Nat.reduceAdd, Nat.reduceLeDiff, h0, h1, hti, e1, e2, hla, hlb, Int.toNat_natCast, hx, hy, hq]; (first | done | rfl))
    | ((first | apply g_T | apply g_F | apply g_gT | apply g_gF); · intro q1_; (first | intro q2_ | have q2_ := q1_); simp only [go_sem, Nat.reduceEqDiff, Nat.reduceAdd, Nat.reduceLeDiff, h0, h1, hti, e1, e2, hla, hlb, Int.toNat_natCast, hx, hy, hq, q1_, q2_]; (first | done | rfl))
    | fail
    )
      cases hpi : eqLab (nth a i) (nth b i) with
      | false =>
        have hc : (eqLab (a[i].1, a[i].2) (b[i].1, b[i].2) != true) = true := by rw [hna, hnb] at hpi; rw [show eqLab (a[i].1, a[i].2) (b[i].1, b[i].2) = false from hpi]; rfl
        (repeat' first
    | refine w_seq ?_ | refine w_rg ?_ | refine wo_nil ?_ | refine g_skU ?_ | refine g_skT ?_ | refine g_skF ?_
    | ((first | apply s_plain | apply s_void | apply s_guard | apply g_goT | apply g_goF); · simp only [go_sem, Nat.reduceEqDiff, Nat.reduceAdd, Nat.reduceLeDiff, hc]; (first | done | rfl))
    | ((first | apply g_T | apply g_F | apply g_gT | apply g_gF); · intro q1_; (first | intro q2_ | have q2_ := q1_); simp only [go_sem, Nat.reduceEqDiff, Nat.reduceAdd, Nat.reduceLeDiff, hc, q1_, q2_]; (first | done | rfl))
    | (apply w_condX; · simp only [go_sem, Nat.reduceEqDiff, Nat.reduceAdd, Nat.reduceLeDiff, hc]; (first | done | rfl)); (first | refine wcd_T ?_ | refine wcd_F ?_)
    | refine w_skip ?_ | refine w_exit ?_ | refine w_ret ?_
    | fail
    )
        exact ⟨.inr rfl, by simp only [go_sem, Nat.reduceEqDiff, Nat.reduceAdd, Nat.reduceLeDiff, retOf, resOf, sameL_hit hi hpi]⟩
      | true =>
        have hc : (eqLab (a[i].1, a[i].2) (b[i].1, b[i].2) != true) = false := by rw [hna, hnb] at hpi; rw [show eqLab (a[i].1, a[i].2) (b[i].1, b[i].2) = true from hpi]; rfl
        (repeat' first
    | refine w_seq ?_ | refine w_rg ?_ | refine wo_nil ?_ | refine g_skU ?_ | refine g_skT ?_ | refine g_skF ?_
    | ((first | apply s_plain | apply s_void | apply s_guard | apply g_goT | apply g_goF); · simp only [go_sem, Nat.reduceEqDiff, Nat.reduceAdd, Nat.reduceLeDiff, hc]; (first | done | rfl))
    | ((first | apply g_T | apply g_F | apply g_gT | apply g_gF); · intro q1_; (first | intro q2_ | have q2_ := q1_); simp only [go_sem, Nat.reduceEqDiff, Nat.reduceAdd, Nat.reduceLeDiff, hc, q1_, q2_]; (first | done | rfl))
    | (apply w_condX; · simp only [go_sem, Nat.reduceEqDiff, Nat.reduceAdd, Nat.reduceLeDiff, hc]; (first | done | rfl)); (first | refine wcd_T ?_ | refine wcd_F ?_)
    | refine w_skip ?_ | refine w_exit ?_ | refine w_ret ?_
    | fail
    )
        refine ⟨⟨?_, ?_, fun j hj => ?_⟩, ?_, ?_⟩
        · simp only [go_sem, Nat.reduceEqDiff, Nat.reduceAdd, Nat.reduceLeDiff, h0]
        · simp only [go_sem, Nat.reduceEqDiff, Nat.reduceAdd, Nat.reduceLeDiff, h1]
        · by_cases hji : j = i
          · rw [hji]; exact hpi
          · exact h3 j (by omega)
        · simp only [go_sem, Nat.reduceEqDiff, Nat.reduceAdd, Nat.reduceLeDiff, hti]
        · simp only [go_sem, Nat.reduceEqDiff, Nat.reduceAdd, Nat.reduceLeDiff, htn]
    · rintro fr σ ⟨h0, h1, h3⟩
      simp only [if_true]
      (repeat' first
    | refine w_seq ?_ | refine w_rg ?_ | refine wo_nil ?_ | refine g_skU ?_ | refine g_skT ?_ | refine g_skF ?_
    | ((first | apply s_plain | apply s_void | apply s_guard | apply g_goT | apply g_goF); · simp only [go_sem, Nat.reduceEqDiff, Nat.reduceAdd, Nat.reduceLeDiff, h0]; (first | done | rfl))
    | ((first | apply g_T | apply g_F | apply g_gT | apply g_gF); · intro q1_; (first | intro q2_ | have q2_ := q1_); simp only [go_sem, Nat.reduceEqDiff, Nat.reduceAdd, Nat.reduceLeDiff, h0, q1_, q2_]; (first | done | rfl))
    | (apply w_condX; · simp only [go_sem, Nat.reduceEqDiff, Nat.reduceAdd, Nat.reduceLeDiff, h0]; (first | done | rfl)); (first | refine wcd_T ?_ | refine wcd_F ?_)
    | refine w_skip ?_ | refine w_exit ?_ | refine w_ret ?_
    | fail
    )
      exact ⟨.inr rfl, by simp only [go_sem, Nat.reduceEqDiff, Nat.reduceAdd, Nat.reduceLeDiff, retOf, resOf, sameL_all hl h3]⟩
    · refine ⟨?_, ?_, fun j hj => by omega⟩ <;> simp only [go_sem, Nat.reduceEqDiff, Nat.reduceAdd, Nat.reduceLeDiff]
    · simp only [go_sem, Nat.reduceEqDiff, Nat.reduceAdd, Nat.reduceLeDiff]
    · simp only [go_sem, Nat.reduceEqDiff, Nat.reduceAdd, Nat.reduceLeDiff, hla]
  · have hc : ((a.length : Int) != (b.length : Int)) = true := by simp only [bne_iff_ne, ne_eq]; omega
    (repeat' first
    | refine w_seq ?_ | refine w_rg ?_ | refine wo_nil ?_ | refine g_skU ?_ | refine g_skT ?_ | refine g_skF ?_
    | ((first | apply s_plain | apply s_void | apply s_guard | apply g_goT | apply g_goF); · simp only [go_sem, Nat.reduceEqDiff, Nat.reduceAdd, Nat.reduceLeDiff, hc]; (first | done | rfl))
    | ((first | apply g_T | apply g_F | apply g_gT | apply g_gF); · intro q1_; (first | intro q2_ | have q2_ := q1_); simp only [go_sem, Nat.reduceEqDiff, Nat.reduceAdd, Nat.reduceLeDiff, hc, q1_, q2_]; (first | done | rfl))
    | (apply w_condX; · simp only [go_sem, Nat.reduceEqDiff, Nat.reduceAdd, Nat.reduceLeDiff, hc]; (first | done | rfl)); (first | refine wcd_T ?_ | refine wcd_F ?_)
    | refine w_skip ?_ | refine w_exit ?_ | refine w_ret ?_
    | fail
    )
    have hz : sameL a b = false := by
      unfold sameL
      rw [decide_eq_false_iff_not]
      rintro rfl
      exact hl rfl
    exact ⟨.inr rfl, by simp only [go_sem, Nat.reduceEqDiff, Nat.reduceAdd, Nat.reduceLeDiff, retOf, resOf, hz]⟩
theorem a192 (N : Has ln0 env) {a b : List Lab} (hn : a.length ≤ 9223372036854775807) : AV env 192 [.sl (labs a), .sl (labs b)] = some (.sc (.bool (sameL a b))) := same_g (N (192, d192) (by simp [ln0])) hn
def likeR (a b : Rule) : Bool := sameL a.labels b.labels && a.name.toList == b.name.toList && a.metric.toList == b.metric.toList && a.how == b.how && a.limit == b.limit && a.for_ == b.for_ && a.keep == b.keep && a.tries == b.tries
theorem likeR_refl (a : Rule) : likeR a a = true := by simp [likeR, sameL]
theorem a189 (N0 : Has ln0 env) (N : Has ln env) {a b : Rule} (hn : a.labels.length ≤ 9223372036854775807) : AV env 189 [rule a, rule b] = some (.sc (.bool (likeR a b))) := by
  have h := a192 N0 (b := b.labels) hn
  refine AV_wp (N (189, d189) (by simp [ln])) rfl ?_
  unfold rule
  (repeat' first
    | refine w_seq ?_ | refine w_rg ?_ | refine wo_nil ?_ | refine g_skU ?_ | refine g_skT ?_ | refine g_skF ?_
    | ((first | apply s_plain | apply s_void | apply s_guard | apply g_goT | apply g_goF); · simp only [go_sem, Nat.reduceEqDiff, Nat.reduceAdd, Nat.reduceLeDiff, h]; (first | done | rfl))
    | ((first | apply g_T | apply g_F | apply g_gT | apply g_gF); · intro q1_; (first | intro q2_ | have q2_ := q1_); simp only [go_sem, Nat.reduceEqDiff, Nat.reduceAdd, Nat.reduceLeDiff, h, q1_, q2_]; (first | done | rfl))
    | (apply w_condX; · simp only [go_sem, Nat.reduceEqDiff, Nat.reduceAdd, Nat.reduceLeDiff, h]; (first | done | rfl)); (first | refine wcd_T ?_ | refine wcd_F ?_)
    | refine w_skip ?_ | refine w_exit ?_ | refine w_ret ?_
    | fail
    )
  refine ⟨.inr rfl, ?_⟩
  simp only [go_sem, Nat.reduceEqDiff, Nat.reduceAdd, Nat.reduceLeDiff, retOf, resOf]
  refine congrArg (fun b => some (PV.sc (.bool b))) ?_
  unfold likeR
  generalize sameL a.labels b.labels = s
  cases s <;> simp
end

section
variable {env : Nat → Option Def} {fr : Fr} {σ σ' : St} {K : Fr → St → Prop} {Q : X → Fr → St → Prop}
def Gat (σ : St) (os : List Nat) (es : Nat) (w : Bool) (p : PV) (xs : List PV) : Prop := (p = .em ∧ xs = []) ∨ ∃ o g wr, o ∈ os ∧ p = .ob o g es 0 xs.length ∧ σ.m o g = some ⟨es, xs, true, wr⟩ ∧ g < σ.c o ∧ xs ≠ [] ∧ (w = true → wr = true)
theorem Gat.em {os : List Nat} {es : Nat} {w : Bool} : Gat σ os es w .em [] := .inl ⟨rfl, rfl⟩
theorem Gat.new {os : List Nat} {es : Nat} {w : Bool} {p : PV} {xs : List PV} (h : Gat σ os es w p xs) {d : Nat} (y : Obj) : Gat (σ.new d y) os es w p xs := by
  rcases h with h | ⟨o, g, wr, h0, h1, h2, h3, h4⟩
  · exact .inl h
  · refine .inr ⟨o, g, wr, h0, h1, ?_, ?_, h4⟩
    · simp only [new_m]; rw [if_neg (fun h => by obtain ⟨rfl, rfl⟩ := h; omega)]; exact h2
    · simp only [new_c]; split
      · rename_i h; subst h; omega
      · exact h3
theorem Gat.put {os : List Nat} {es : Nat} {w : Bool} {p : PV} {xs : List PV} (h : Gat σ os es w p xs) {d k : Nat} (hd : d ∉ os) (y : Option Obj) : Gat (σ.put d k y) os es w p xs := by
  rcases h with h | ⟨o, g, wr, h0, h1, h2, h3, h4⟩
  · exact .inl h
  · refine .inr ⟨o, g, wr, h0, h1, ?_, ?_, h4⟩
    · simp only [put_m]; rw [if_neg (fun (h : o = d ∧ g = k) => hd (h.1 ▸ h0))]; exact h2
    · simp only [put_c]; exact h3
theorem Gat.fz {os : List Nat} {es : Nat} {w : Bool} {p : PV} {xs : List PV} (h : Gat σ os es w p xs) (hx : xs.mapM (fz σ 11) = some xs) : fz σ 12 p = some (.sl xs) := by
  rcases h with ⟨rfl, rfl⟩ | ⟨o, g, wr, _, rfl, h2, _⟩
  · rfl
  · rw [fz_ob, h2]
    simp [hx]
theorem gat_app {E : Ev} {d es by_ : Nat} {os : List Nat} {w kw : Bool} {s' x : PA} {xs : List PV} {e : PV} (hg : Gat σ os es w (pa fr s') xs) (hd : d ∈ os) (hsrc : srcOf σ es (pa fr x) = some [e]) (hok : okc e = true) (hl : (cellsOf e).length = es) (hb : (xs.length + 1) * by_ ≤ 70368744177664) :
    ∃ p σ', evO E d fr σ (.app es by_ kw s' x) = some (p, σ') ∧ Gat σ' os es (w && kw) p (xs ++ [e]) := by
  have hall : ([e].all fun y => okc y && (cellsOf y).length == es) = true := by simp [hok, hl]
  rcases hg with ⟨h1, rfl⟩ | ⟨o, g, wr, h0, h1, h2, h3, h4, h5⟩
  · refine ⟨.ob d (σ.c d) es 0 1, σ.new d ⟨es, [e], true, true⟩, ?_, .inr ⟨d, σ.c d, true, hd, rfl, by simp [new_m], by simp [new_c], by simp, fun _ => rfl⟩⟩
    simp only [evO, hsrc, Option.bind_some, hall, if_true, h1]
    rw [if_pos (by simpa using hb)]
    rfl
  · refine ⟨.ob d (σ.c d) es 0 (xs.length + 1), (σ.put o g (if kw then none else some ⟨es, xs, false, false⟩)).new d ⟨es, xs ++ [e], true, wr && kw⟩, ?_, .inr ⟨d, σ.c d, wr && kw, hd, by simp, by simp [new_m, put_c], by simp [new_c, put_c], by simp, fun h => ?_⟩⟩
    · simp only [evO, hsrc, Option.bind_some, hall, if_true, h1, h2]
      simp
      simpa using hb
    · simp only [Bool.and_eq_true] at h ⊢
      exact ⟨h5 h.1, h.2⟩
theorem s_gat {d t es by_ : Nat} {os : List Nat} {w kw : Bool} {x : PA} {xs : List PV} {e : PV} {ops : List POp} (hg : Gat σ os es w (fr t) xs) (hd : d ∈ os) (hsrc : srcOf σ es (pa fr x) = some [e]) (hok : okc e = true) (hl : (cellsOf e).length = es) (hb : (xs.length + 1) * by_ ≤ 70368744177664)
    (h2 : ∀ p σ', Gat σ' os es (w && kw) p (xs ++ [e]) → Wos env ops K (fr.set d p) σ') : Wos env (⟨some d, none, .app es by_ kw (.t t) x⟩ :: ops) K fr σ := by
  obtain ⟨p, σ', h3, h4⟩ := gat_app (E := EV env) (fr := fr) (s' := .t t) (x := x) (kw := kw) hg hd hsrc hok hl hb
  exact s_plain h3 (h2 p σ' h4)
theorem call_pure {f : Nat} {args as : List PV} {r : PV} (h1 : args.mapM (fz σ dep) = some as) (h2 : AV env f as = some r) : ∃ σ', callE (EV env) f .pure args σ = some (r, σ') := by
  simp only [callE, pcall_eq, h1, Option.bind_some, h2, Bool.false_eq_true, if_false]
  split
  · exact ⟨_, rfl⟩
  · exact ⟨_, rfl⟩
theorem s_call {d f : Nat} {args : List PA} {as : List PV} {r : PV} {ops : List POp} (h1 : (args.map (pa fr)).mapM (fz σ dep) = some as) (h2 : AV env f as = some r) (h : ∀ σ', Wos env ops K (fr.set d r) σ') :
    Wos env (⟨some d, none, .call f .pure args⟩ :: ops) K fr σ := by
  obtain ⟨σ', h3⟩ := call_pure h1 h2
  exact s_plain (v := r) (σ' := σ') h3 (h σ')
theorem Gat.mono {os os' : List Nat} {es : Nat} {w : Bool} {p : PV} {xs : List PV} (h : Gat σ os es w p xs) (ho : ∀ o ∈ os, o ∈ os') : Gat σ os' es false p xs := by
  rcases h with h | ⟨o, g, wr, h0, h1, h2, h3, h4, _⟩
  · exact .inl h
  · exact .inr ⟨o, g, wr, ho o h0, h1, h2, h3, h4, fun h => by cases h⟩
structure Keeps (σ σ' : St) (os : List Nat) : Prop where
  c : ∀ o, σ.c o ≤ σ'.c o
  m : ∀ o g, o ∉ os → g < σ.c o → σ'.m o g = σ.m o g
theorem Gat.keep {os os2 : List Nat} {es : Nat} {w : Bool} {p : PV} {xs : List PV} (h : Gat σ os es w p xs) (hk : Keeps σ σ' os2) (hd : ∀ o ∈ os, o ∉ os2) : Gat σ' os es w p xs := by
  rcases h with h | ⟨o, g, wr, h0, h1, h2, h3, h4⟩
  · exact .inl h
  · exact .inr ⟨o, g, wr, h0, h1, by rw [hk.m o g (hd o h0) h3]; exact h2, Nat.lt_of_lt_of_le h3 (hk.c o), h4⟩
theorem gat_appL {E : Ev} {d es by_ : Nat} {os : List Nat} {w kw : Bool} {s' x : PA} {xs ys : List PV} (hg : Gat σ os es w (pa fr s') xs) (hsrc : srcOf σ es (pa fr x) = some ys) (hall : (ys.all fun y => okc y && (cellsOf y).length == es) = true) (hb : (xs.length + ys.length) * by_ ≤ 70368744177664) :
    ∃ p σ', evO E d fr σ (.app es by_ kw s' x) = some (p, σ') ∧ Gat σ' [d] es (w && kw) p (xs ++ ys) ∧ Keeps σ σ' os := by
  rcases hg with ⟨h1, rfl⟩ | ⟨o, g, wr, h0, h1, h2, h3, h4, h5⟩
  · cases ys with
    | nil =>
      refine ⟨.em, σ, ?_, .em, ⟨fun _ => Nat.le_refl _, fun _ _ _ _ => rfl⟩⟩
      simp only [evO, hsrc, Option.bind_some, hall, if_true, h1]
      simp
    | cons y r =>
      refine ⟨.ob d (σ.c d) es 0 (y :: r).length, σ.new d ⟨es, y :: r, true, true⟩, ?_, .inr ⟨d, σ.c d, true, by simp, by simp, by simp [new_m], by simp [new_c], by simp, fun _ => rfl⟩, ⟨fun o => ?_, fun o g _ hlt => ?_⟩⟩
      · simp only [evO, hsrc, Option.bind_some, hall, if_true, h1]
        rw [if_pos (by simpa using hb)]
        rfl
      · simp only [new_c]; split
        · rename_i h; subst h; omega
        · exact Nat.le_refl _
      · simp only [new_m]; rw [if_neg (fun h => by obtain ⟨rfl, rfl⟩ := h; omega)]
  · refine ⟨.ob d (σ.c d) es 0 (xs.length + ys.length), (σ.put o g (if kw then none else some ⟨es, xs, false, false⟩)).new d ⟨es, xs ++ ys, true, wr && kw⟩, ?_, .inr ⟨d, σ.c d, wr && kw, by simp, by simp, by simp [new_m, put_c], by simp [new_c, put_c], by simp [h4], fun h => ?_⟩, ⟨fun o' => ?_, fun o' g' ho hlt => ?_⟩⟩
    · simp only [evO, hsrc, Option.bind_some, hall, if_true, h1, h2]
      simp
      simpa using hb
    · simp only [Bool.and_eq_true] at h ⊢
      exact ⟨h5 h.1, h.2⟩
    · simp only [new_c, put_c]; split
      · rename_i h; subst h; omega
      · exact Nat.le_refl _
    · simp only [new_m, put_m, put_c]
      have n1 : ¬ (o' = d ∧ g' = σ.c d) := fun h => by obtain ⟨rfl, rfl⟩ := h; omega
      have n2 : ¬ (o' = o ∧ g' = g) := fun h => ho (h.1 ▸ h0)
      simp only [n1, n2, if_false]
theorem s_gatL {d t es by_ : Nat} {os : List Nat} {w kw : Bool} {x : PA} {xs ys : List PV} {ops : List POp} (hg : Gat σ os es w (fr t) xs) (hsrc : srcOf σ es (pa fr x) = some ys) (hall : (ys.all fun y => okc y && (cellsOf y).length == es) = true) (hb : (xs.length + ys.length) * by_ ≤ 70368744177664)
    (h2 : ∀ p σ', Gat σ' [d] es (w && kw) p (xs ++ ys) → Keeps σ σ' os → Wos env ops K (fr.set d p) σ') : Wos env (⟨some d, none, .app es by_ kw (.t t) x⟩ :: ops) K fr σ := by
  obtain ⟨p, σ', h3, h4, h5⟩ := gat_appL (E := EV env) (d := d) (fr := fr) (s' := .t t) (x := x) (kw := kw) hg hsrc hall hb
  exact s_plain h3 (h2 p σ' h4 h5)
theorem gat_len {os : List Nat} {es : Nat} {w : Bool} {p : PV} {xs : List PV} {E : Ev} {d t : Nat} (hg : Gat σ os es w p xs) (ht : fr t = p) : evO E d fr σ (.lenL (.t t)) = some (.sc (.int .i64 xs.length), σ) := by
  rcases hg with ⟨rfl, rfl⟩ | ⟨o, g, wr, h0, rfl, h2, h3, h4, h5⟩
  · simp [evO, pa, ht]
  · simp [evO, pa, ht]
theorem gat_elems {os : List Nat} {es : Nat} {w : Bool} {p : PV} {xs : List PV} (hg : Gat σ os es w p xs) : elemsOf σ p = some xs := by
  rcases hg with ⟨rfl, rfl⟩ | ⟨o, g, wr, h0, rfl, h2, h3, h4, h5⟩
  · rfl
  · simp [elemsOf, h2]
theorem Gat.one {d es : Nat} {w : Bool} {p : PV} {xs : List PV} {os : List Nat} (h : Gat σ [d] es w p xs) (hd : d ∈ os) : Gat σ os es false p xs := h.mono (by intro o ho; simp at ho; subst ho; exact hd)
theorem gat_fzd {os : List Nat} {es d : Nat} {w : Bool} {p : PV} {xs : List PV} (h : Gat σ os es w p xs) (hx : xs.mapM (fz σ d) = some xs) : fz σ (d + 1) p = some (.sl xs) := by
  rcases h with ⟨rfl, rfl⟩ | ⟨o, g, wr, _, rfl, h2, _⟩
  · rfl
  · rw [fz_ob, h2]
    simp [hx]
theorem Gat.lenP {os : List Nat} {es : Nat} {w : Bool} {p : PV} {xs : List PV} (h : Gat σ os es w p xs) : lenP p = some xs.length := by
  rcases h with ⟨rfl, rfl⟩ | ⟨o, g, wr, _, rfl, _⟩ <;> rfl
def cutS (n : Nat) (s : ByteArray) : ByteArray := s.extract 0 (min s.size n)
theorem mn2 (a b : Int) : mnmx false [.sc (.int .i64 a), .sc (.int .i64 b)] = some (.sc (.int .i64 (min a b))) := by
  simp only [mnmx, List.foldlM_cons, List.foldlM_nil, mn1, if_true, Bool.false_eq_true, if_false]
  have : (if b < a then b else a) = min a b := by
    rw [Int.min_def]; split <;> split <;> omega
  rw [this]; rfl
theorem slcL_cut (fr : Fr) (t n es : Nat) (xs : List PV) (hx : xs.all (fun x => (cellsOf x).length == es) = true) (h : fr t = .sc (.int .i64 (min (xs.length : Int) (n : Int)))) : slcLP es fr (.sl xs) none (some (.t t)) = some (.sl (xs.take (min xs.length n))) := by
  have e : min (xs.length : Int) (n : Int) = ((min xs.length n : Nat) : Int) := by omega
  simp only [slcLP, hx, if_true, hiOf, pa, h, e, bound, loOf, Option.bind_some]
  have e2 : (0 : Int) ≤ ((min xs.length n : Nat) : Int) ∧ ((min xs.length n : Nat) : Int) ≤ (xs.length : Int) := by omega
  rw [if_pos e2]
  simp
end

def d108 : Def := (.code 1 [.tmp 2] (.seq (.rg false [⟨.some 2, .none, .mv (.c (.slice .none 0 0))⟩]) (.seq (.rg false [⟨.some 3, .none, .mv (.c (.slice .none 0 0))⟩]) (.seq (.seq (.rg false [⟨.some 6, .none, .mv (.t 0)⟩, ⟨.some 7, .none, .mv (.t 0)⟩, ⟨.some 8, .none, .lenL (.t 7)⟩, ⟨.some 9, .none, .mnmx false [.t 8, .c (.int .i64 10)]⟩, ⟨.some 10, .none, .slcL 2 (.t 6) .none (.some (.t 9))⟩, ⟨.some 11, .none, .lenL (.t 10)⟩, ⟨.some 12, .none, .mv (.c (.int .i64 0))⟩]) (.block 0 (.loop (.seq (.rg false [⟨.some 13, .none, .bin .lss (.t 12) (.t 11)⟩]) (.seq (.cond (.t 13) .skip (.exit 0)) (.seq (.block 1 (.seq (.rg false [⟨.some 14, .none, .ia 2 (.t 10) (.t 12)⟩, ⟨.some 15, .none, .ld (.some 2) (.t 14)⟩, ⟨.some 5, .none, .box (.c (.agg #[.string ⟨#[]⟩, .string ⟨#[]⟩]))⟩, ⟨.none, .none, .st 2 (.t 5) (.t 15)⟩]) (.rg true [⟨.some 16, .none, .mv (.t 3)⟩, ⟨.some 17, .none, .fa 0 (.t 5)⟩, ⟨.some 18, .none, .ld .none (.t 17)⟩, ⟨.some 19, .none, .fa 0 (.t 5)⟩, ⟨.some 20, .none, .ld .none (.t 19)⟩, ⟨.some 21, .none, .lenS (.t 20)⟩, ⟨.some 22, .none, .mnmx false [.t 21, .c (.int .i64 70)]⟩, ⟨.some 23, .none, .slcS (.t 18) .none (.some (.t 22))⟩, ⟨.some 24, .none, .fa 1 (.t 5)⟩, ⟨.some 25, .none, .ld .none (.t 24)⟩, ⟨.some 26, .none, .fa 1 (.t 5)⟩, ⟨.some 27, .none, .ld .none (.t 26)⟩, ⟨.some 28, .none, .lenS (.t 27)⟩, ⟨.some 29, .none, .mnmx false [.t 28, .c (.int .i64 70)]⟩, ⟨.some 30, .none, .slcS (.t 25) .none (.some (.t 29))⟩, ⟨.some 31, .none, .build (.agg #[.string ⟨#[]⟩, .string ⟨#[]⟩]) [(0, (1, .t 23)), (1, (1, .t 30))]⟩, ⟨.some 32, .none, .bsl 2 (.agg #[.string ⟨#[]⟩, .string ⟨#[]⟩]) 1 [(0, .t 31)]⟩, ⟨.some 33, .none, .app 2 32 false (.t 16) (.t 32)⟩, ⟨.some 3, .none, .mv (.t 33)⟩]))) (.rg false [⟨.some 34, .none, .bin .add (.t 12) (.c (.int .i64 1))⟩, ⟨.some 12, .none, .mv (.t 34)⟩]))))))) (.seq (.rg false [⟨.some 35, .none, .mv (.t 3)⟩, ⟨.some 2, .none, .mv (.t 35)⟩]) .ret)))))
def d104 : Def := (.code 1 [.cell 2 (.some 8)] (.seq (.rg false [⟨.some 1, .none, .box (.t 0)⟩, ⟨.some 2, .none, .box (.c (.agg #[.string ⟨#[]⟩, .string ⟨#[]⟩, .int .i64 0, .int .i64 0, .int .i64 0, .int .i64 0, .int .i64 0, .slice .none 0 0]))⟩]) (.seq (.rg true [⟨.some 3, .none, .fa 0 (.t 1)⟩, ⟨.some 4, .none, .ld .none (.t 3)⟩, ⟨.some 5, .none, .fa 0 (.t 1)⟩, ⟨.some 6, .none, .ld .none (.t 5)⟩, ⟨.some 7, .none, .lenS (.t 6)⟩, ⟨.some 8, .none, .mnmx false [.t 7, .c (.int .i64 70)]⟩, ⟨.some 9, .none, .slcS (.t 4) .none (.some (.t 8))⟩, ⟨.some 10, .none, .fa 1 (.t 1)⟩, ⟨.some 11, .none, .ld .none (.t 10)⟩, ⟨.some 12, .none, .fa 1 (.t 1)⟩, ⟨.some 13, .none, .ld .none (.t 12)⟩, ⟨.some 14, .none, .lenS (.t 13)⟩, ⟨.some 15, .none, .mnmx false [.t 14, .c (.int .i64 70)]⟩, ⟨.some 16, .none, .slcS (.t 11) .none (.some (.t 15))⟩, ⟨.some 17, .none, .fa 7 (.t 1)⟩, ⟨.some 18, .none, .ld .none (.t 17)⟩, ⟨.some 19, .none, .call 108 .strict [.t 18]⟩, ⟨.some 20, .none, .fa 0 (.t 1)⟩, ⟨.none, .none, .st 1 (.t 20) (.t 9)⟩, ⟨.some 21, .none, .fa 1 (.t 1)⟩, ⟨.none, .none, .st 1 (.t 21) (.t 16)⟩, ⟨.some 22, .none, .fa 7 (.t 1)⟩, ⟨.none, .none, .st 1 (.t 22) (.t 19)⟩]) (.seq (.rg false [⟨.some 23, .none, .ld (.some 8) (.t 1)⟩, ⟨.none, .none, .st 8 (.t 2) (.t 23)⟩]) .ret))))
def li : List (Nat × Def) := [(108, d108), (104, d104)]
section
variable {env : Nat → Option Def} {fr : Fr} {σ : St} {K : Fr → St → Prop}
def cutL (m : Lab) : Lab := (cutS 70 m.1, cutS 70 m.2)
def fewL (l : List Lab) : List Lab := (l.take (min l.length 10)).map cutL
def Got (σ : St) (s es : Nat) (p : PV) (xs : List PV) : Prop := (p = .em ∧ xs = []) ∨ ∃ g wr, p = .ob s g es 0 xs.length ∧ σ.m s g = some ⟨es, xs, true, wr⟩ ∧ g < σ.c s ∧ xs ≠ []
theorem Got.new {s es : Nat} {p : PV} {xs : List PV} (h : Got σ s es p xs) {d : Nat} (hd : s ≠ d) (y : Obj) : Got (σ.new d y) s es p xs := by
  rcases h with h | ⟨g, wr, h1, h2, h3, h4⟩
  · exact .inl h
  · exact .inr ⟨g, wr, h1, by simp only [new_m]; rw [if_neg (fun h => hd h.1)]; exact h2, by simp only [new_c]; rw [if_neg hd]; exact h3, h4⟩
theorem Got.put {s es : Nat} {p : PV} {xs : List PV} (h : Got σ s es p xs) {d k : Nat} (hd : s ≠ d) (y : Option Obj) : Got (σ.put d k y) s es p xs := by
  rcases h with h | ⟨g, wr, h1, h2, h3, h4⟩
  · exact .inl h
  · exact .inr ⟨g, wr, h1, by simp only [put_m]; rw [if_neg (fun h => hd h.1)]; exact h2, by simp only [put_c]; exact h3, h4⟩
theorem app_one {E : Ev} {s es by_ : Nat} {s' x : PA} {xs : List PV} {e : PV} (hg : Got σ s es (pa fr s') xs) (hsrc : srcOf σ es (pa fr x) = some [e]) (hok : okc e = true) (hl : (cellsOf e).length = es) (hb : (xs.length + 1) * by_ ≤ 70368744177664) :
    ∃ p σ', evO E s fr σ (.app es by_ false s' x) = some (p, σ') ∧ Got σ' s es p (xs ++ [e]) := by
  have hall : ([e].all fun y => okc y && (cellsOf y).length == es) = true := by simp [hok, hl]
  rcases hg with ⟨h1, rfl⟩ | ⟨g, wr, h1, h2, h3, h4⟩
  · refine ⟨.ob s (σ.c s) es 0 1, σ.new s ⟨es, [e], true, true⟩, ?_, .inr ⟨σ.c s, true, rfl, by simp [new_m], by simp [new_c], by simp⟩⟩
    simp only [evO, hsrc, Option.bind_some, hall, if_true, h1]
    rw [if_pos (by simpa using hb)]
    rfl
  · refine ⟨.ob s (σ.c s) es 0 (xs.length + 1), (σ.put s g (some ⟨es, xs, false, false⟩)).new s ⟨es, xs ++ [e], true, false⟩, ?_, .inr ⟨σ.c s, false, by simp, by simp [new_m, put_c], by simp [new_c, put_c], by simp⟩⟩
    simp only [evO, hsrc, Option.bind_some, hall, if_true, h1, h2]
    have hb' : (xs.length + [e].length) * by_ ≤ 70368744177664 := hb
    simp
    simpa using hb
theorem s_app {d t es by_ : Nat} {x : PA} {xs : List PV} {e : PV} {ops : List POp} (hg : Got σ d es (fr t) xs) (hsrc : srcOf σ es (pa fr x) = some [e]) (hok : okc e = true) (hl : (cellsOf e).length = es) (hb : (xs.length + 1) * by_ ≤ 70368744177664)
    (h2 : ∀ p σ', Got σ' d es p (xs ++ [e]) → Wos env ops K (fr.set d p) σ') : Wos env (⟨some d, none, .app es by_ false (.t t) x⟩ :: ops) K fr σ := by
  obtain ⟨p, σ', h3, h4⟩ := app_one (E := EV env) (fr := fr) (s' := .t t) (x := x) hg hsrc hok hl hb
  exact s_plain h3 (h2 p σ' h4)
theorem fewL_len (l : List Lab) : (fewL l).length = min l.length 10 := by simp [fewL]
theorem few_g {k0 : Nat} (hk0 : env k0 = some d108) {l : List Lab} (hn : l.length ≤ 9223372036854775807) : AV env k0 [.sl (labs l)] = some (.sl (labs (fewL l))) := by
  refine AV_wp hk0 rfl ?_
  have hll := labs_len l
  have hall : (labs l).all (fun x => (cellsOf x).length == 2) = true := by
    rw [List.all_eq_true]
    intro x hx
    obtain ⟨m, _, rfl⟩ := List.mem_map.1 hx
    rfl
  (repeat' first
    | refine w_seq ?_ | refine w_rg ?_ | refine wo_nil ?_ | refine g_skU ?_ | refine g_skT ?_ | refine g_skF ?_
    | ((first | apply s_plain | apply s_void | apply s_guard | apply g_goT | apply g_goF); · simp only [go_sem, Nat.reduceEqDiff, Nat.reduceAdd, Nat.reduceLeDiff, hll, mn2]; (first | done | rfl))
    | ((first | apply g_T | apply g_F | apply g_gT | apply g_gF); · intro q1_; (first | intro q2_ | have q2_ := q1_); simp only [go_sem, Nat.reduceEqDiff, Nat.reduceAdd, Nat.reduceLeDiff, hll, mn2, q1_, q2_]; (first | done | rfl))
    | fail
    )
  refine s_plain (v := .sl ((labs l).take (min l.length 10))) (σ' := St.nil) (by
    simp only [↓e_slcL]
    have h6 : pa _ (.t 6) = .sl (labs l) := (by simp only [go_sem, Nat.reduceEqDiff, Nat.reduceAdd, Nat.reduceLeDiff] : pa (((((((frOf [PV.sl (labs l)]).set 2 PV.em).set 3 PV.em).set 6 (PV.sl (labs l))).set 7 (PV.sl (labs l))).set 8 (PV.sc (Value.int IntKind.i64 l.length))).set 9 (PV.sc (Value.int IntKind.i64 (min (l.length : Int) 10)))) (.t 6) = .sl (labs l))
    rw [h6, slcL_cut _ 9 10 2 (labs l) hall (by simp only [go_sem, Nat.reduceEqDiff, Nat.reduceAdd, Nat.reduceLeDiff, hll]; rfl), hll]
    rfl) ?_
  have hlt : ((labs l).take (min l.length 10)).length = min l.length 10 := by rw [List.length_take, hll]; omega
  (repeat' first
    | refine w_seq ?_ | refine w_rg ?_ | refine wo_nil ?_ | refine g_skU ?_ | refine g_skT ?_ | refine g_skF ?_
    | ((first | apply s_plain | apply s_void | apply s_guard | apply g_goT | apply g_goF); · simp only [go_sem, Nat.reduceEqDiff, Nat.reduceAdd, Nat.reduceLeDiff, hlt]; (first | done | rfl))
    | ((first | apply g_T | apply g_F | apply g_gT | apply g_gF); · intro q1_; (first | intro q2_ | have q2_ := q1_); simp only [go_sem, Nat.reduceEqDiff, Nat.reduceAdd, Nat.reduceLeDiff, hlt, q1_, q2_]; (first | done | rfl))
    | fail
    )
  refine w_block (w_range (min l.length 10) (by omega) (fun i fr σ => fr 10 = .sl ((labs l).take (min l.length 10)) ∧ Got σ 33 2 (fr 3) ((labs (fewL l)).take i)) (by decide) ?_ ?_ ?_ _ _ ?_ ?_ ?_)
  · rintro i fr σ v ⟨h0, h1⟩
    refine ⟨⟨?_, ?_⟩, ⟨?_, ?_⟩, ⟨?_, ?_⟩⟩ <;> simp only [go_sem, Nat.reduceEqDiff, Nat.reduceAdd, Nat.reduceLeDiff, h0, h1]
  · rintro i fr σ hi ⟨h10, hg⟩ hti htn
    have hil : i < l.length := by omega
    have hx : ((labs l).take (min l.length 10))[i]? = some (.agg [.sc (.string l[i].1), .sc (.string l[i].2)]) := by
      rw [List.getElem?_take, if_pos hi]
      exact labs_at (List.getElem?_eq_getElem hil)
    have e1 : (0 : Int) ≤ (i : Int) ∧ (i : Int) < ((min l.length 10 : Nat) : Int) := by omega
    refine w_block ?_
    have b70 : ∀ (n : Nat) (k : IntKind), bound n (.sc (.int k (min (n : Int) 70))) = some (min n 70) := fun n k => bound_min rfl
    (repeat' first
    | refine w_seq ?_ | refine w_rg ?_ | refine wo_nil ?_ | refine g_skU ?_ | refine g_skT ?_ | refine g_skF ?_
    | ((first | apply s_plain | apply s_void | apply s_guard | apply g_goT | apply g_goF); · simp only [go_sem, Nat.reduceEqDiff, Nat.reduceAdd, Nat.reduceLeDiff, h10, hti, e1, hlt, Int.toNat_natCast, hx, mn2, List.modify_zero_cons, b70, fillP, fillE, splice, List.replicate_succ, List.replicate_zero, List.set_cons_zero]; (first | done | rfl))
    | ((first | apply g_T | apply g_F | apply g_gT | apply g_gF); · intro q1_; (first | intro q2_ | have q2_ := q1_); simp only [go_sem, Nat.reduceEqDiff, Nat.reduceAdd, Nat.reduceLeDiff, h10, hti, e1, hlt, Int.toNat_natCast, hx, mn2, List.modify_zero_cons, b70, fillP, fillE, splice, List.replicate_succ, List.replicate_zero, List.set_cons_zero, q1_, q2_]; (first | done | rfl))
    | fail
    )
    have hL : (labs (fewL l)).take (i + 1) = (labs (fewL l)).take i ++ [.agg [.sc (.string (cutS 70 l[i].1)), .sc (.string (cutS 70 l[i].2))]] := by
      have hlen : i < (labs (fewL l)).length := by rw [labs_len, fewL_len]; exact hi
      rw [List.take_succ_eq_append_getElem hlen]
      congr 1
      simp [labs, fewL, lab, cutL]
    have hlen : ((labs (fewL l)).take i).length ≤ 10 := by rw [List.length_take]; omega
    refine s_app (xs := (labs (fewL l)).take i) (e := .agg [.sc (.string (cutS 70 l[i].1)), .sc (.string (cutS 70 l[i].2))]) (by simp only [go_sem, Nat.reduceEqDiff, Nat.reduceAdd, Nat.reduceLeDiff]; exact ((hg.new (d := 2000005) (by decide) _).put (d := 2000005) (by decide) _).new (d := 32) (by decide) _) (by simp only [go_sem, Nat.reduceEqDiff, Nat.reduceAdd, Nat.reduceLeDiff, srcOf, elemsOf]; rfl) rfl rfl (by omega) ?_
    intro p σ' hg2
    rw [← hL] at hg2
    (repeat' first
    | refine w_seq ?_ | refine w_rg ?_ | refine wo_nil ?_ | refine g_skU ?_ | refine g_skT ?_ | refine g_skF ?_
    | ((first | apply s_plain | apply s_void | apply s_guard | apply g_goT | apply g_goF); · simp only [go_sem, Nat.reduceEqDiff, Nat.reduceAdd, Nat.reduceLeDiff]; (first | done | rfl))
    | ((first | apply g_T | apply g_F | apply g_gT | apply g_gF); · intro q1_; (first | intro q2_ | have q2_ := q1_); simp only [go_sem, Nat.reduceEqDiff, Nat.reduceAdd, Nat.reduceLeDiff, q1_, q2_]; (first | done | rfl))
    | fail
    )
    refine ⟨⟨?_, ?_⟩, ?_, ?_⟩
    · simp only [go_sem, Nat.reduceEqDiff, Nat.reduceAdd, Nat.reduceLeDiff, h10]
    · simp only [go_sem, Nat.reduceEqDiff, Nat.reduceAdd, Nat.reduceLeDiff]; exact hg2
    · simp only [go_sem, Nat.reduceEqDiff, Nat.reduceAdd, Nat.reduceLeDiff, hti]
    · simp only [go_sem, Nat.reduceEqDiff, Nat.reduceAdd, Nat.reduceLeDiff, htn]
  · rintro fr σ ⟨h10, hg⟩
    simp only [if_true]
    have hfull : (labs (fewL l)).take (min l.length 10) = labs (fewL l) := by rw [List.take_of_length_le]; rw [labs_len, fewL_len]; exact Nat.le_refl _
    rw [hfull] at hg
    have hfz : fz σ 12 (fr 3) = some (.sl (labs (fewL l))) := by
      have hm : ∀ (L : List Lab), (labs L).mapM (fz σ 11) = some (labs L) := by
        intro L
        induction L with
        | nil => rfl
        | cons m L ih =>
          show List.mapM (fz σ 11) (lab m :: labs L) = _
          rw [mapM_cons', ih]
          rfl
      rcases hg with ⟨h3, h4⟩ | ⟨g, wr, h3, h4, _, _⟩
      · rw [h3, h4]; rfl
      · rw [h3, fz_ob, h4]
        simp [hm]
    (repeat' first
    | refine w_seq ?_ | refine w_rg ?_ | refine wo_nil ?_ | refine g_skU ?_ | refine g_skT ?_ | refine g_skF ?_
    | ((first | apply s_plain | apply s_void | apply s_guard | apply g_goT | apply g_goF); · simp only [go_sem, Nat.reduceEqDiff, Nat.reduceAdd, Nat.reduceLeDiff]; (first | done | rfl))
    | ((first | apply g_T | apply g_F | apply g_gT | apply g_gF); · intro q1_; (first | intro q2_ | have q2_ := q1_); simp only [go_sem, Nat.reduceEqDiff, Nat.reduceAdd, Nat.reduceLeDiff, q1_, q2_]; (first | done | rfl))
    | (apply w_condX; · simp only [go_sem, Nat.reduceEqDiff, Nat.reduceAdd, Nat.reduceLeDiff]; (first | done | rfl)); (first | refine wcd_T ?_ | refine wcd_F ?_)
    | refine w_skip ?_ | refine w_exit ?_ | refine w_ret ?_
    | fail
    )
    exact ⟨.inr rfl, by simp only [go_sem, Nat.reduceEqDiff, Nat.reduceAdd, Nat.reduceLeDiff, retOf, resOf, hfz]⟩
  · exact ⟨by simp only [go_sem, Nat.reduceEqDiff, Nat.reduceAdd, Nat.reduceLeDiff], by simp only [go_sem, Nat.reduceEqDiff, Nat.reduceAdd, Nat.reduceLeDiff]; exact .inl ⟨rfl, rfl⟩⟩
  · simp only [go_sem, Nat.reduceEqDiff, Nat.reduceAdd, Nat.reduceLeDiff]
  · simp only [go_sem, Nat.reduceEqDiff, Nat.reduceAdd, Nat.reduceLeDiff]
theorem a108 (J : Has li env) {l : List Lab} (hn : l.length ≤ 9223372036854775807) : AV env 108 [.sl (labs l)] = some (.sl (labs (fewL l))) := few_g (J (108, d108) (by simp [li])) hn
end

section
variable {env : Nat → Option Def} {fr : Fr} {σ : St} {K : Fr → St → Prop}
def cutR (r : Rule) : Rule := { r with name := cutS 70 r.name, metric := cutS 70 r.metric, labels := fewL r.labels }
theorem a104 (J : Has li env) {r : Rule} (hn : r.labels.length ≤ 9223372036854775807) : AV env 104 [rule r] = some (rule (cutR r)) := by
  have h108 := a108 J hn
  have b70 : ∀ (n : Nat) (k : IntKind), bound n (.sc (.int k (min (n : Int) 70))) = some (min n 70) := fun n k => bound_min rfl
  refine AV_wp (J (104, d104) (by simp [li])) rfl ?_
  unfold rule
  (repeat' first
    | refine w_seq ?_ | refine w_rg ?_ | refine wo_nil ?_ | refine g_skU ?_ | refine g_skT ?_ | refine g_skF ?_
    | ((first | apply s_plain | apply s_void | apply s_guard | apply g_goT | apply g_goF); · simp only [go_sem, Nat.reduceEqDiff, Nat.reduceAdd, Nat.reduceLeDiff, h108, mn2, b70, splice, List.modify_zero_cons, List.take_succ_cons, List.drop_succ_cons]; (first | done | rfl))
    | ((first | apply g_T | apply g_F | apply g_gT | apply g_gF); · intro q1_; (first | intro q2_ | have q2_ := q1_); simp only [go_sem, Nat.reduceEqDiff, Nat.reduceAdd, Nat.reduceLeDiff, h108, mn2, b70, splice, List.modify_zero_cons, List.take_succ_cons, List.drop_succ_cons, q1_, q2_]; (first | done | rfl))
    | (apply w_condX; · simp only [go_sem, Nat.reduceEqDiff, Nat.reduceAdd, Nat.reduceLeDiff, h108, mn2, b70, splice, List.modify_zero_cons, List.take_succ_cons, List.drop_succ_cons]; (first | done | rfl)); (first | refine wcd_T ?_ | refine wcd_F ?_)
    | refine w_skip ?_ | refine w_exit ?_ | refine w_ret ?_
    | fail
    )
  refine ⟨.inr rfl, ?_⟩
  simp only [go_sem, Nat.reduceEqDiff, Nat.reduceAdd, Nat.reduceLeDiff, retOf, resOf, List.modify_zero_cons]
  rfl
theorem cutS_small (s : ByteArray) : Small (cutS 70 s) := by
  unfold Small cutS
  rw [ByteArray.size_extract]
  omega
theorem fewL_smalls (l : List Lab) : Smalls (fewL l) := by
  intro m hm
  simp only [fewL, List.mem_map] at hm
  obtain ⟨x, _, rfl⟩ := hm
  exact ⟨cutS_small _, cutS_small _⟩
theorem cutR_fits (r : Rule) : (cutR r).Fits := ⟨cutS_small _, cutS_small _, by simp only [cutR, fewL_len]; omega, fewL_smalls _⟩
end

def d136 : Def := (.code 2 [.tmp 4] (.seq (.rg false [⟨.some 2, .none, .box (.t 0)⟩, ⟨.some 3, .none, .box (.t 1)⟩, ⟨.some 4, .none, .mv (.c (.int .i64 0))⟩]) (.seq (.rg false [⟨.some 5, .none, .fa 0 (.t 2)⟩, ⟨.some 6, .none, .ld .none (.t 5)⟩, ⟨.some 7, .none, .fa 0 (.t 3)⟩, ⟨.some 8, .none, .ld .none (.t 7)⟩, ⟨.some 9, .none, .call 142 .pure [.t 6, .t 8]⟩, ⟨.some 4, .none, .mv (.t 9)⟩]) .ret)))
def d142 : Def := (.code 2 [.tmp 4] (.seq (.rg false [⟨.some 4, .none, .mv (.c (.int .i64 0))⟩]) (.seq (.rg false [⟨.some 5, .none, .mv (.t 0)⟩, ⟨.some 6, .none, .mv (.t 1)⟩, ⟨.some 7, .none, .call 153 .pure [.t 5, .t 6]⟩, ⟨.some 4, .none, .mv (.t 7)⟩]) .ret)))
def d143 : Def := (.code 4 [] (.seq (.rg false [⟨.some 10, .none, .mv (.t 1)⟩, ⟨.some 11, .none, .bin .add (.t 10) (.c (.int .i64 1))⟩, ⟨.some 8, .none, .mv (.t 11)⟩]) (.block 0 (.loop (.seq (.seq (.rg false [⟨.some 12, .none, .mv (.t 8)⟩, ⟨.some 13, .none, .mv (.t 2)⟩, ⟨.some 14, .none, .bin .lss (.t 12) (.t 13)⟩]) (.cond (.t 14) .skip (.exit 0))) (.seq (.block 1 (.seq (.rg false [⟨.some 17, .none, .mv (.t 8)⟩, ⟨.some 9, .none, .mv (.t 17)⟩]) (.block 2 (.loop (.seq (.seq (.rg true [⟨.some 18, .none, .mv (.t 9)⟩, ⟨.some 19, .none, .mv (.t 1)⟩, ⟨.some 20, .none, .bin .gtr (.t 18) (.t 19)⟩, ⟨.some 21, .none, .mv (.t 20)⟩, ⟨.some 22, .some (21, true), .mv (.t 3)⟩, ⟨.some 23, .some (21, true), .mv (.t 0)⟩, ⟨.some 24, .some (21, true), .mv (.t 9)⟩, ⟨.some 25, .some (21, true), .ia 2 (.t 23) (.t 24)⟩, ⟨.some 26, .some (21, true), .ld (.some 2) (.t 25)⟩, ⟨.some 27, .some (21, true), .mv (.t 0)⟩, ⟨.some 28, .some (21, true), .mv (.t 9)⟩, ⟨.some 29, .some (21, true), .bin .sub (.t 28) (.c (.int .i64 1))⟩, ⟨.some 30, .some (21, true), .ia 2 (.t 27) (.t 29)⟩, ⟨.some 31, .some (21, true), .ld (.some 2) (.t 30)⟩, ⟨.some 32, .some (21, true), .callv (.t 22) .strict [.t 26, .t 31]⟩, ⟨.some 33, .some (21, true), .bin .lss (.t 32) (.c (.int .i64 0))⟩, ⟨.some 34, .none, .pick (.t 21) (.t 33) (.c (.bool false))⟩]) (.cond (.t 34) .skip (.exit 2))) (.seq (.block 3 (.rg true [⟨.some 37, .none, .mv (.t 0)⟩, ⟨.some 38, .none, .mv (.t 9)⟩, ⟨.some 39, .none, .mv (.t 0)⟩, ⟨.some 40, .none, .mv (.t 9)⟩, ⟨.some 41, .none, .bin .sub (.t 40) (.c (.int .i64 1))⟩, ⟨.some 42, .none, .mv (.t 0)⟩, ⟨.some 43, .none, .mv (.t 9)⟩, ⟨.some 44, .none, .bin .sub (.t 43) (.c (.int .i64 1))⟩, ⟨.some 45, .none, .ia 2 (.t 42) (.t 44)⟩, ⟨.some 46, .none, .ld (.some 2) (.t 45)⟩, ⟨.some 47, .none, .mv (.t 0)⟩, ⟨.some 48, .none, .mv (.t 9)⟩, ⟨.some 49, .none, .ia 2 (.t 47) (.t 48)⟩, ⟨.some 50, .none, .ld (.some 2) (.t 49)⟩, ⟨.some 51, .none, .ia 2 (.t 37) (.t 38)⟩, ⟨.none, .none, .st 2 (.t 51) (.t 46)⟩, ⟨.some 52, .none, .ia 2 (.t 39) (.t 41)⟩, ⟨.none, .none, .st 2 (.t 52) (.t 50)⟩])) (.rg false [⟨.some 35, .none, .mv (.t 9)⟩, ⟨.some 36, .none, .bin .sub (.t 35) (.c (.int .i64 1))⟩, ⟨.some 9, .none, .mv (.t 36)⟩]))))))) (.rg false [⟨.some 15, .none, .mv (.t 8)⟩, ⟨.some 16, .none, .bin .add (.t 15) (.c (.int .i64 1))⟩, ⟨.some 8, .none, .mv (.t 16)⟩])))))))
def d140 : Def := (.code 5 [] (.seq (.rg false [⟨.some 10, .none, .mv (.c (.bool true))⟩]) (.seq (.rg false [⟨.some 11, .none, .mv (.c (.bool true))⟩]) (.block 0 (.loop (.block 1 (.seq (.rg false [⟨.some 21, .none, .mv (.t 2)⟩, ⟨.some 22, .none, .mv (.t 1)⟩, ⟨.some 23, .none, .bin .sub (.t 21) (.t 22)⟩, ⟨.some 12, .none, .mv (.t 23)⟩]) (.seq (.seq (.rg false [⟨.some 24, .none, .mv (.t 12)⟩, ⟨.some 25, .none, .bin .leq (.t 24) (.c (.int .i64 12))⟩]) (.cond (.t 25) (.seq (.rg false [⟨.some 26, .none, .mv (.t 0)⟩, ⟨.some 27, .none, .mv (.t 1)⟩, ⟨.some 28, .none, .mv (.t 2)⟩, ⟨.some 29, .none, .mv (.t 4)⟩, ⟨.some 30, .none, .call 143 .opn [.t 26, .t 27, .t 28, .t 29]⟩]) .ret) .skip)) (.seq (.seq (.rg false [⟨.some 31, .none, .mv (.t 3)⟩, ⟨.some 32, .none, .bin .eql (.t 31) (.c (.int .i64 0))⟩]) (.cond (.t 32) (.seq (.rg false [⟨.some 33, .none, .mv (.t 0)⟩, ⟨.some 34, .none, .mv (.t 1)⟩, ⟨.some 35, .none, .mv (.t 2)⟩, ⟨.some 36, .none, .mv (.t 4)⟩, ⟨.some 37, .none, .call 144 .pure [.t 33, .t 34, .t 35, .t 36]⟩]) .ret) .skip)) (.seq (.seq (.rg false [⟨.some 38, .none, .mv (.t 10)⟩, ⟨.some 39, .none, .un .not (.t 38)⟩]) (.cond (.t 39) (.seq (.rg false [⟨.some 40, .none, .mv (.t 0)⟩, ⟨.some 41, .none, .mv (.t 1)⟩, ⟨.some 42, .none, .mv (.t 2)⟩, ⟨.some 43, .none, .mv (.t 4)⟩, ⟨.some 44, .none, .call 145 .pure [.t 40, .t 41, .t 42, .t 43]⟩]) (.rg false [⟨.some 45, .none, .mv (.t 3)⟩, ⟨.some 46, .none, .bin .sub (.t 45) (.c (.int .i64 1))⟩, ⟨.some 3, .none, .mv (.t 46)⟩])) .skip)) (.seq (.rg false [⟨.some 48, .none, .mv (.t 0)⟩, ⟨.some 49, .none, .mv (.t 1)⟩, ⟨.some 50, .none, .mv (.t 2)⟩, ⟨.some 51, .none, .mv (.t 4)⟩, ⟨.some 52, .none, .call 146 .pure [.t 48, .t 49, .t 50, .t 51]⟩, ⟨.some 47, .none, .mv (.t 52)⟩, ⟨.some 53, .none, .ext (.t 47) 0⟩, ⟨.some 54, .none, .ext (.t 47) 1⟩, ⟨.some 13, .none, .mv (.t 53)⟩, ⟨.some 14, .none, .mv (.t 54)⟩]) (.seq (.seq (.rg false [⟨.some 55, .none, .mv (.t 14)⟩, ⟨.some 56, .none, .bin .eql (.t 55) (.c (.int .i64 2))⟩]) (.cond (.t 56) (.seq (.rg false [⟨.some 57, .none, .mv (.t 0)⟩, ⟨.some 58, .none, .mv (.t 1)⟩, ⟨.some 59, .none, .mv (.t 2)⟩, ⟨.some 60, .none, .mv (.t 4)⟩, ⟨.some 61, .none, .call 147 .pure [.t 57, .t 58, .t 59, .t 60]⟩]) (.seq (.rg false [⟨.some 62, .none, .mv (.t 2)⟩, ⟨.some 63, .none, .bin .sub (.t 62) (.c (.int .i64 1))⟩, ⟨.some 64, .none, .mv (.t 13)⟩, ⟨.some 65, .none, .mv (.t 1)⟩, ⟨.some 66, .none, .bin .sub (.t 64) (.t 65)⟩, ⟨.some 67, .none, .bin .sub (.t 63) (.t 66)⟩, ⟨.some 13, .none, .mv (.t 67)⟩]) (.rg false [⟨.some 14, .none, .mv (.c (.int .i64 1))⟩]))) .skip)) (.seq (.seq (.rg false [⟨.some 68, .none, .mv (.t 10)⟩, ⟨.some 69, .none, .mv (.t 68)⟩, ⟨.some 70, .some (69, true), .mv (.t 11)⟩, ⟨.some 71, .none, .pick (.t 69) (.t 70) (.c (.bool false))⟩, ⟨.some 72, .none, .mv (.t 71)⟩, ⟨.some 73, .some (72, true), .mv (.t 14)⟩, ⟨.some 74, .some (72, true), .bin .eql (.t 73) (.c (.int .i64 1))⟩, ⟨.some 75, .none, .pick (.t 72) (.t 74) (.c (.bool false))⟩]) (.cond (.t 75) (.seq (.rg false [⟨.some 76, .none, .mv (.t 0)⟩, ⟨.some 77, .none, .mv (.t 1)⟩, ⟨.some 78, .none, .mv (.t 2)⟩, ⟨.some 79, .none, .mv (.t 4)⟩, ⟨.some 80, .none, .call 148 .pure [.t 76, .t 77, .t 78, .t 79]⟩]) (.cond (.t 80) .ret .skip)) .skip)) (.seq (.seq (.rg true [⟨.some 81, .none, .mv (.t 1)⟩, ⟨.some 82, .none, .bin .gtr (.t 81) (.c (.int .i64 0))⟩, ⟨.some 83, .none, .mv (.t 82)⟩, ⟨.some 84, .some (83, true), .mv (.t 4)⟩, ⟨.some 85, .some (83, true), .mv (.t 0)⟩, ⟨.some 86, .some (83, true), .mv (.t 1)⟩, ⟨.some 87, .some (83, true), .bin .sub (.t 86) (.c (.int .i64 1))⟩, ⟨.some 88, .some (83, true), .ia 2 (.t 85) (.t 87)⟩, ⟨.some 89, .some (83, true), .ld (.some 2) (.t 88)⟩, ⟨.some 90, .some (83, true), .mv (.t 0)⟩, ⟨.some 91, .some (83, true), .mv (.t 13)⟩, ⟨.some 92, .some (83, true), .ia 2 (.t 90) (.t 91)⟩, ⟨.some 93, .some (83, true), .ld (.some 2) (.t 92)⟩, ⟨.some 94, .some (83, true), .callv (.t 84) .strict [.t 89, .t 93]⟩, ⟨.some 95, .some (83, true), .bin .lss (.t 94) (.c (.int .i64 0))⟩, ⟨.some 96, .some (83, true), .un .not (.t 95)⟩, ⟨.some 97, .none, .pick (.t 83) (.t 96) (.c (.bool false))⟩]) (.cond (.t 97) (.seq (.rg false [⟨.some 98, .none, .mv (.t 0)⟩, ⟨.some 99, .none, .mv (.t 1)⟩, ⟨.some 100, .none, .mv (.t 2)⟩, ⟨.some 101, .none, .mv (.t 13)⟩, ⟨.some 102, .none, .mv (.t 4)⟩, ⟨.some 103, .none, .call 149 .pure [.t 98, .t 99, .t 100, .t 101, .t 102]⟩, ⟨.some 15, .none, .mv (.t 103)⟩]) (.seq (.rg false [⟨.some 104, .none, .mv (.t 15)⟩, ⟨.some 1, .none, .mv (.t 104)⟩]) (.exit 1))) .skip)) (.seq (.rg false [⟨.some 106, .none, .mv (.t 0)⟩, ⟨.some 107, .none, .mv (.t 1)⟩, ⟨.some 108, .none, .mv (.t 2)⟩, ⟨.some 109, .none, .mv (.t 13)⟩, ⟨.some 110, .none, .mv (.t 4)⟩, ⟨.some 111, .none, .call 150 .pure [.t 106, .t 107, .t 108, .t 109, .t 110]⟩, ⟨.some 105, .none, .mv (.t 111)⟩, ⟨.some 112, .none, .ext (.t 105) 0⟩, ⟨.some 113, .none, .ext (.t 105) 1⟩, ⟨.some 16, .none, .mv (.t 112)⟩, ⟨.some 17, .none, .mv (.t 113)⟩]) (.seq (.rg false [⟨.some 114, .none, .mv (.t 17)⟩, ⟨.some 11, .none, .mv (.t 114)⟩]) (.seq (.rg false [⟨.some 115, .none, .mv (.t 16)⟩, ⟨.some 116, .none, .mv (.t 1)⟩, ⟨.some 117, .none, .bin .sub (.t 115) (.t 116)⟩, ⟨.some 118, .none, .mv (.t 2)⟩, ⟨.some 119, .none, .mv (.t 16)⟩, ⟨.some 120, .none, .bin .sub (.t 118) (.t 119)⟩, ⟨.some 18, .none, .mv (.t 117)⟩, ⟨.some 19, .none, .mv (.t 120)⟩]) (.seq (.rg false [⟨.some 121, .none, .mv (.t 12)⟩, ⟨.some 122, .none, .bin .quo (.t 121) (.c (.int .i64 8))⟩, ⟨.some 20, .none, .mv (.t 122)⟩]) (.seq (.rg false [⟨.some 123, .none, .mv (.t 18)⟩, ⟨.some 124, .none, .mv (.t 19)⟩, ⟨.some 125, .none, .bin .lss (.t 123) (.t 124)⟩]) (.cond (.t 125) (.seq (.rg false [⟨.some 126, .none, .mv (.t 18)⟩, ⟨.some 127, .none, .mv (.t 20)⟩, ⟨.some 128, .none, .bin .geq (.t 126) (.t 127)⟩, ⟨.some 10, .none, .mv (.t 128)⟩]) (.seq (.rg false [⟨.some 129, .none, .mv (.t 0)⟩, ⟨.some 130, .none, .mv (.t 1)⟩, ⟨.some 131, .none, .mv (.t 16)⟩, ⟨.some 132, .none, .mv (.t 3)⟩, ⟨.some 133, .none, .mv (.t 4)⟩, ⟨.some 134, .none, .call 140 .opn [.t 129, .t 130, .t 131, .t 132, .t 133]⟩]) (.rg false [⟨.some 135, .none, .mv (.t 16)⟩, ⟨.some 136, .none, .bin .add (.t 135) (.c (.int .i64 1))⟩, ⟨.some 1, .none, .mv (.t 136)⟩]))) (.seq (.rg false [⟨.some 137, .none, .mv (.t 19)⟩, ⟨.some 138, .none, .mv (.t 20)⟩, ⟨.some 139, .none, .bin .geq (.t 137) (.t 138)⟩, ⟨.some 10, .none, .mv (.t 139)⟩]) (.seq (.rg false [⟨.some 140, .none, .mv (.t 0)⟩, ⟨.some 141, .none, .mv (.t 16)⟩, ⟨.some 142, .none, .bin .add (.t 141) (.c (.int .i64 1))⟩, ⟨.some 143, .none, .mv (.t 2)⟩, ⟨.some 144, .none, .mv (.t 3)⟩, ⟨.some 145, .none, .mv (.t 4)⟩, ⟨.some 146, .none, .call 140 .opn [.t 140, .t 142, .t 143, .t 144, .t 145]⟩]) (.rg false [⟨.some 147, .none, .mv (.t 16)⟩, ⟨.some 2, .none, .mv (.t 147)⟩])))))))))))))))))))))))
def d135 : Def := (.code 2 [] (.seq (.rg false [⟨.some 5, .none, .mv (.t 0)⟩, ⟨.some 6, .none, .lenL (.t 5)⟩, ⟨.some 4, .none, .mv (.t 6)⟩]) (.rg false [⟨.some 7, .none, .mv (.t 0)⟩, ⟨.some 8, .none, .mv (.t 4)⟩, ⟨.some 9, .none, .mv (.t 4)⟩, ⟨.some 10, .none, .cvi .u64 (.t 9)⟩, ⟨.some 11, .none, .call 141 .pure [.t 10]⟩, ⟨.some 12, .none, .mv (.t 1)⟩, ⟨.some 13, .none, .call 140 .opn [.t 7, .c (.int .i64 0), .t 8, .t 11, .t 12]⟩])))
def lo : List (Nat × Def) := [(136, d136), (142, d142), (143, d143), (140, d140), (135, d135), (153, .prim cmpF)]
section
variable {env : Nat → Option Def} {fr : Fr} {σ : St} {K : Fr → St → Prop} {Q : X → Fr → St → Prop}
def insAt (m : Lab) (a : List Lab) : Nat → List Lab
  | 0 => m :: a
  | k + 1 => if lessB m.1 (nth a k).1 then insAt m a k else a.take (k + 1) ++ m :: a.drop (k + 1)
def midL (a : List Lab) (m : Lab) (rest : List Lab) (j : Nat) : List Lab := a.take j ++ m :: (a.drop j ++ rest)
structure Down (o g n i : Nat) (a : List Lab) (m : Lab) (rest : List Lab) (j : Nat) (fr : Fr) (σ : St) : Prop where
  le : j ≤ a.length
  f0 : fr 0 = .ob o g 2 0 n
  f1 : fr 1 = .sc (.int .i64 0)
  f2 : fr 2 = .sc (.int .i64 n)
  f3 : fr 3 = .fn 136 [] []
  f8 : fr 8 = .sc (.int .i64 i)
  f9 : fr 9 = .sc (.int .i64 j)
  mm : σ.m o g = some ⟨2, labs (midL a m rest j), true, true⟩
  ins : insAt m a a.length = insAt m a j
end

def d134 : Def := (.code 1 [.tmp 2] (.seq (.rg false [⟨.some 2, .none, .mv (.c (.slice .none 0 0))⟩]) (.seq (.rg false [⟨.some 3, .none, .mv (.c (.slice .none 0 0))⟩]) (.seq (.seq (.rg false [⟨.some 6, .none, .mv (.t 0)⟩, ⟨.some 7, .none, .lenL (.t 6)⟩, ⟨.some 8, .none, .mv (.c (.int .i64 0))⟩]) (.block 0 (.loop (.seq (.rg false [⟨.some 9, .none, .bin .lss (.t 8) (.t 7)⟩]) (.seq (.cond (.t 9) .skip (.exit 0)) (.seq (.block 1 (.seq (.rg false [⟨.some 10, .none, .ia 2 (.t 6) (.t 8)⟩, ⟨.some 11, .none, .ld (.some 2) (.t 10)⟩, ⟨.some 5, .none, .box (.c (.agg #[.string ⟨#[]⟩, .string ⟨#[]⟩]))⟩, ⟨.none, .none, .st 2 (.t 5) (.t 11)⟩]) (.rg false [⟨.some 12, .none, .mv (.t 3)⟩, ⟨.some 13, .none, .ld (.some 2) (.t 5)⟩, ⟨.some 14, .none, .bsl 2 (.agg #[.string ⟨#[]⟩, .string ⟨#[]⟩]) 1 [(0, .t 13)]⟩, ⟨.some 15, .none, .app 2 32 true (.t 12) (.t 14)⟩, ⟨.some 3, .none, .mv (.t 15)⟩]))) (.rg false [⟨.some 16, .none, .bin .add (.t 8) (.c (.int .i64 1))⟩, ⟨.some 8, .none, .mv (.t 16)⟩]))))))) (.seq (.rg false [⟨.some 17, .none, .mv (.t 3)⟩, ⟨.some 2, .none, .mv (.t 17)⟩]) .ret)))))
def d137 : Def := (.code 1 [.tmp 2] (.seq (.rg false [⟨.some 2, .none, .mv (.c (.slice .none 0 0))⟩]) (.seq (.rg false [⟨.some 3, .none, .mv (.c (.slice .none 0 0))⟩]) (.seq (.seq (.rg false [⟨.some 6, .none, .mv (.t 0)⟩, ⟨.some 7, .none, .lenL (.t 6)⟩, ⟨.some 8, .none, .mv (.c (.int .i64 0))⟩]) (.block 0 (.loop (.seq (.rg false [⟨.some 9, .none, .bin .lss (.t 8) (.t 7)⟩]) (.seq (.cond (.t 9) .skip (.exit 0)) (.seq (.block 1 (.seq (.rg false [⟨.some 10, .none, .ia 2 (.t 6) (.t 8)⟩, ⟨.some 11, .none, .ld (.some 2) (.t 10)⟩, ⟨.some 5, .none, .box (.c (.agg #[.string ⟨#[]⟩, .string ⟨#[]⟩]))⟩, ⟨.none, .none, .st 2 (.t 5) (.t 11)⟩]) (.rg false [⟨.some 12, .none, .mv (.t 3)⟩, ⟨.some 13, .none, .ld (.some 2) (.t 5)⟩, ⟨.some 14, .none, .bsl 2 (.agg #[.string ⟨#[]⟩, .string ⟨#[]⟩]) 1 [(0, .t 13)]⟩, ⟨.some 15, .none, .app 2 32 false (.t 12) (.t 14)⟩, ⟨.some 3, .none, .mv (.t 15)⟩]))) (.rg false [⟨.some 16, .none, .bin .add (.t 8) (.c (.int .i64 1))⟩, ⟨.some 8, .none, .mv (.t 16)⟩]))))))) (.seq (.rg false [⟨.some 17, .none, .mv (.t 3)⟩, ⟨.some 2, .none, .mv (.t 17)⟩]) .ret)))))
def d132 : Def := (.code 2 [.tmp 4] (.seq (.rg false [⟨.some 4, .none, .mv (.c (.bool false))⟩]) (.seq (.rg false [⟨.some 5, .none, .mv (.t 0)⟩, ⟨.some 6, .none, .mv (.t 1)⟩, ⟨.some 7, .none, .call 121 .pure [.t 5, .t 6]⟩, ⟨.some 8, .none, .bin .geq (.t 7) (.c (.int .i64 0))⟩, ⟨.some 4, .none, .mv (.t 8)⟩]) .ret)))
def d133 : Def := (.code 1 [.tmp 2] (.seq (.rg false [⟨.some 1, .none, .box (.t 0)⟩, ⟨.some 2, .none, .mv (.c (.bool false))⟩]) (.seq (.rg false [⟨.some 3, .none, .ld (.some 2) (.t 1)⟩, ⟨.some 4, .none, .call 120 .pure [.t 3]⟩, ⟨.some 5, .none, .un .not (.t 4)⟩, ⟨.some 2, .none, .mv (.t 5)⟩]) .ret)))
def d129 : Def := (.code 1 [.tmp 2, .tmp 3] (.seq (.rg false [⟨.some 2, .none, .mv (.c (.slice .none 0 0))⟩, ⟨.some 3, .none, .mv (.c (.int .i64 0))⟩]) (.seq (.seq (.rg false [⟨.some 6, .none, .mv (.t 0)⟩, ⟨.some 7, .none, .lenL (.t 6)⟩, ⟨.some 8, .none, .bin .gtr (.t 7) (.c (.int .i64 8))⟩]) (.cond (.t 8) (.seq (.rg false [⟨.some 2, .none, .mv (.c (.slice .none 0 0))⟩, ⟨.some 3, .none, .mv (.c (.int .i64 2))⟩]) .ret) .skip)) (.seq (.seq (.rg false [⟨.some 9, .none, .mv (.t 0)⟩, ⟨.some 10, .none, .call 132 .pure [.t 9, .f 133]⟩]) (.cond (.t 10) (.seq (.rg false [⟨.some 2, .none, .mv (.c (.slice .none 0 0))⟩, ⟨.some 3, .none, .mv (.c (.int .i64 1))⟩]) .ret) .skip)) (.seq (.rg false [⟨.some 11, .none, .mv (.t 0)⟩, ⟨.some 12, .none, .call 134 .opn [.t 11]⟩, ⟨.some 4, .none, .mv (.t 12)⟩]) (.seq (.rg false [⟨.some 13, .none, .mv (.t 4)⟩, ⟨.some 14, .none, .call 135 .opn [.t 13, .f 136]⟩]) (.seq (.rg false [⟨.some 15, .none, .mv (.t 4)⟩, ⟨.some 16, .none, .call 137 .pure [.t 15]⟩, ⟨.some 5, .none, .mv (.t 16)⟩]) (.seq (.seq (.rg false [⟨.some 17, .none, .mv (.t 5)⟩, ⟨.some 18, .none, .call 113 .pure [.t 17]⟩, ⟨.some 19, .none, .un .not (.t 18)⟩]) (.cond (.t 19) (.seq (.rg false [⟨.some 2, .none, .mv (.c (.slice .none 0 0))⟩, ⟨.some 3, .none, .mv (.c (.int .i64 10))⟩]) .ret) .skip)) (.seq (.rg false [⟨.some 20, .none, .mv (.t 5)⟩, ⟨.some 2, .none, .mv (.t 20)⟩, ⟨.some 3, .none, .mv (.c (.int .i64 0))⟩]) .ret)))))))))
def lp : List (Nat × Def) := [(134, d134), (137, d137), (132, d132), (133, d133), (129, d129)]
section
variable {env : Nat → Option Def} {fr : Fr} {σ : St} {K : Fr → St → Prop} {Q : X → Fr → St → Prop}
theorem labs_fz (σ : St) (l : List Lab) : (labs l).mapM (fz σ 11) = some (labs l) := by
  induction l with
  | nil => rfl
  | cons m r ih =>
    show List.mapM (fz σ 11) (lab m :: labs r) = _
    rw [mapM_cons', ih]
    rfl
theorem labs_take_succ {l : List Lab} {i : Nat} (hi : i < l.length) : (labs l).take (i + 1) = (labs l).take i ++ [.agg [.sc (.string l[i].1), .sc (.string l[i].2)]] := by
  have hlen : i < (labs l).length := by rw [labs_len]; exact hi
  rw [List.take_succ_eq_append_getElem hlen]
  congr 1
  simp [labs, lab]
theorem a134 (P : Has lp env) {l : List Lab} (hn : l.length ≤ 1000000) : ∃ r σ', EV env 134 [.sl (labs l)] σ = some (r, σ') ∧ Gat σ' [15] 2 true r (labs l) := by
  refine EV_wp' (P (134, d134) (by simp [lp])) rfl ?_
  have hll := labs_len l
  (repeat' first
    | refine w_seq ?_ | refine w_rg ?_ | refine wo_nil ?_ | refine g_skU ?_ | refine g_skT ?_ | refine g_skF ?_
    | ((first | apply s_plain | apply s_void | apply s_guard | apply g_goT | apply g_goF); · simp only [go_sem, Nat.reduceEqDiff, Nat.reduceAdd, Nat.reduceLeDiff, hll]; (first | done | rfl))
    | ((first | apply g_T | apply g_F | apply g_gT | apply g_gF); · intro q1_; (first | intro q2_ | have q2_ := q1_); simp only [go_sem, Nat.reduceEqDiff, Nat.reduceAdd, Nat.reduceLeDiff, hll, q1_, q2_]; (first | done | rfl))
    | fail
    )
  refine w_block (w_range l.length (by omega) (fun i fr σ => fr 6 = .sl (labs l) ∧ Gat σ [15] 2 true (fr 3) ((labs l).take i)) (by decide) ?_ ?_ ?_ _ _ ?_ ?_ ?_)
  · rintro i fr σ v ⟨h0, h1⟩
    refine ⟨⟨?_, ?_⟩, ⟨?_, ?_⟩, ⟨?_, ?_⟩⟩ <;> simp only [go_sem, Nat.reduceEqDiff, Nat.reduceAdd, Nat.reduceLeDiff, h0, h1]
  · rintro i fr σ hi ⟨h6, hg⟩ hti htn
    have hy := labs_at (List.getElem?_eq_getElem hi)
    have e1 : (0 : Int) ≤ (i : Int) ∧ (i : Int) < (l.length : Int) := by omega
    refine w_block ?_
    simp only [lab] at hy
    (repeat' first
    | refine w_seq ?_ | refine w_rg ?_ | refine wo_nil ?_ | refine g_skU ?_ | refine g_skT ?_ | refine g_skF ?_
    | ((first | apply s_plain | apply s_void | apply s_guard | apply g_goT | apply g_goF); · simp only [go_sem, Nat.reduceEqDiff, Nat.reduceAdd, Nat.reduceLeDiff, h6, hti, e1, hll, Int.toNat_natCast, hy, List.modify_zero_cons, fillE, List.replicate_succ, List.replicate_zero, List.set_cons_zero]; (first | done | rfl))
    | ((first | apply g_T | apply g_F | apply g_gT | apply g_gF); · intro q1_; (first | intro q2_ | have q2_ := q1_); simp only [go_sem, Nat.reduceEqDiff, Nat.reduceAdd, Nat.reduceLeDiff, h6, hti, e1, hll, Int.toNat_natCast, hy, List.modify_zero_cons, fillE, List.replicate_succ, List.replicate_zero, List.set_cons_zero, q1_, q2_]; (first | done | rfl))
    | fail
    )
    have hlen : ((labs l).take i).length ≤ 1000000 := by rw [List.length_take]; omega
    refine s_gat (os := [15]) (w := true) (xs := (labs l).take i) (e := .agg [.sc (.string l[i].1), .sc (.string l[i].2)]) (by simp only [go_sem, Nat.reduceEqDiff, Nat.reduceAdd, Nat.reduceLeDiff]; exact ((hg.new _).put (d := 2000005) (by decide) _).new _) (by decide) (by simp only [go_sem, Nat.reduceEqDiff, Nat.reduceAdd, Nat.reduceLeDiff, srcOf, elemsOf]) rfl rfl (by omega) ?_
    intro p σ' hg2
    rw [← labs_take_succ hi] at hg2
    (repeat' first
    | refine w_seq ?_ | refine w_rg ?_ | refine wo_nil ?_ | refine g_skU ?_ | refine g_skT ?_ | refine g_skF ?_
    | ((first | apply s_plain | apply s_void | apply s_guard | apply g_goT | apply g_goF); · simp only [go_sem, Nat.reduceEqDiff, Nat.reduceAdd, Nat.reduceLeDiff]; (first | done | rfl))
    | ((first | apply g_T | apply g_F | apply g_gT | apply g_gF); · intro q1_; (first | intro q2_ | have q2_ := q1_); simp only [go_sem, Nat.reduceEqDiff, Nat.reduceAdd, Nat.reduceLeDiff, q1_, q2_]; (first | done | rfl))
    | fail
    )
    refine ⟨⟨?_, ?_⟩, ?_, ?_⟩
    · simp only [go_sem, Nat.reduceEqDiff, Nat.reduceAdd, Nat.reduceLeDiff, h6]
    · simp only [go_sem, Nat.reduceEqDiff, Nat.reduceAdd, Nat.reduceLeDiff]; exact hg2
    · simp only [go_sem, Nat.reduceEqDiff, Nat.reduceAdd, Nat.reduceLeDiff, hti]
    · simp only [go_sem, Nat.reduceEqDiff, Nat.reduceAdd, Nat.reduceLeDiff, htn]
  · rintro fr σ ⟨h6, hg⟩
    simp only [if_true]
    rw [List.take_of_length_le (by rw [hll]; exact Nat.le_refl _)] at hg
    (repeat' first
    | refine w_seq ?_ | refine w_rg ?_ | refine wo_nil ?_ | refine g_skU ?_ | refine g_skT ?_ | refine g_skF ?_
    | ((first | apply s_plain | apply s_void | apply s_guard | apply g_goT | apply g_goF); · simp only [go_sem, Nat.reduceEqDiff, Nat.reduceAdd, Nat.reduceLeDiff]; (first | done | rfl))
    | ((first | apply g_T | apply g_F | apply g_gT | apply g_gF); · intro q1_; (first | intro q2_ | have q2_ := q1_); simp only [go_sem, Nat.reduceEqDiff, Nat.reduceAdd, Nat.reduceLeDiff, q1_, q2_]; (first | done | rfl))
    | (apply w_condX; · simp only [go_sem, Nat.reduceEqDiff, Nat.reduceAdd, Nat.reduceLeDiff]; (first | done | rfl)); (first | refine wcd_T ?_ | refine wcd_F ?_)
    | refine w_skip ?_ | refine w_exit ?_ | refine w_ret ?_
    | fail
    )
    exact ⟨.inr rfl, fr 3, by simp only [go_sem, Nat.reduceEqDiff, Nat.reduceAdd, Nat.reduceLeDiff, retOf, resOf], hg⟩
  · exact ⟨by simp only [go_sem, Nat.reduceEqDiff, Nat.reduceAdd, Nat.reduceLeDiff], by simp only [go_sem, Nat.reduceEqDiff, Nat.reduceAdd, Nat.reduceLeDiff]; exact .em⟩
  · simp only [go_sem, Nat.reduceEqDiff, Nat.reduceAdd, Nat.reduceLeDiff]
  · simp only [go_sem, Nat.reduceEqDiff, Nat.reduceAdd, Nat.reduceLeDiff, hll]
def Bits (env : Nat → Option Def) : Prop := ∀ n : Nat, n ≤ 12 → ∃ q : Int, AV env 141 [.sc (.int .u64 n)] = some (.sc (.int .i64 q))
end

def d116 : Def := (.code 2 [.tmp 4, .tmp 5] (.seq (.rg false [⟨.some 4, .none, .mv (.c (.slice .none 0 0))⟩, ⟨.some 5, .none, .mv (.c (.int .i64 0))⟩]) (.seq (.seq (.rg false [⟨.some 9, .none, .mv (.t 0)⟩, ⟨.some 10, .none, .call 113 .pure [.t 9]⟩, ⟨.some 11, .none, .un .not (.t 10)⟩, ⟨.some 12, .none, .mv (.t 11)⟩, ⟨.some 13, .some (12, false), .mv (.t 1)⟩, ⟨.some 14, .some (12, false), .call 113 .pure [.t 13]⟩, ⟨.some 15, .some (12, false), .un .not (.t 14)⟩, ⟨.some 16, .none, .pick (.t 12) (.c (.bool true)) (.t 15)⟩]) (.cond (.t 16) (.seq (.rg false [⟨.some 4, .none, .mv (.c (.slice .none 0 0))⟩, ⟨.some 5, .none, .mv (.c (.int .i64 1))⟩]) .ret) .skip)) (.seq (.rg false [⟨.some 17, .none, .mv (.t 1)⟩, ⟨.some 18, .none, .call 128 .opn [.t 17]⟩, ⟨.some 6, .none, .mv (.t 18)⟩]) (.seq (.seq (.rg false [⟨.some 19, .none, .mv (.t 0)⟩, ⟨.some 20, .none, .lenL (.t 19)⟩, ⟨.some 21, .none, .mv (.c (.int .i64 0))⟩]) (.block 0 (.loop (.seq (.rg false [⟨.some 22, .none, .bin .lss (.t 21) (.t 20)⟩]) (.seq (.cond (.t 22) .skip (.exit 0)) (.seq (.block 1 (.seq (.rg false [⟨.some 23, .none, .ia 2 (.t 19) (.t 21)⟩, ⟨.some 24, .none, .ld (.some 2) (.t 23)⟩, ⟨.some 8, .none, .box (.c (.agg #[.string ⟨#[]⟩, .string ⟨#[]⟩]))⟩, ⟨.none, .none, .st 2 (.t 8) (.t 24)⟩]) (.seq (.rg false [⟨.some 25, .none, .mv (.t 1)⟩, ⟨.some 26, .none, .fa 0 (.t 8)⟩, ⟨.some 27, .none, .ld .none (.t 26)⟩, ⟨.some 28, .none, .call 114 .pure [.t 25, .t 27]⟩, ⟨.some 29, .none, .bin .eql (.t 28) (.c (.string ⟨#[]⟩))⟩]) (.cond (.t 29) (.rg false [⟨.some 30, .none, .mv (.t 6)⟩, ⟨.some 31, .none, .ld (.some 2) (.t 8)⟩, ⟨.some 32, .none, .bsl 2 (.agg #[.string ⟨#[]⟩, .string ⟨#[]⟩]) 1 [(0, .t 31)]⟩, ⟨.some 33, .none, .app 2 32 false (.t 30) (.t 32)⟩, ⟨.some 6, .none, .mv (.t 33)⟩]) .skip)))) (.rg false [⟨.some 34, .none, .bin .add (.t 21) (.c (.int .i64 1))⟩, ⟨.some 21, .none, .mv (.t 34)⟩]))))))) (.seq (.rg false [⟨.some 35, .none, .mv (.t 6)⟩, ⟨.some 36, .none, .call 129 .pure [.t 35]⟩, ⟨.some 37, .none, .ext (.t 36) 0⟩, ⟨.some 38, .none, .ext (.t 36) 1⟩, ⟨.some 4, .none, .mv (.t 37)⟩, ⟨.some 5, .none, .mv (.t 38)⟩]) .ret))))))
def d109 : Def := (.code 2 [.tmp 4, .tmp 5] (.seq (.rg false [⟨.some 2, .none, .box (.t 0)⟩, ⟨.some 4, .none, .mv (.c (.slice .none 0 0))⟩, ⟨.some 5, .none, .mv (.c (.int .i64 0))⟩]) (.seq (.seq (.rg false [⟨.some 8, .none, .ld (.some 8) (.t 2)⟩, ⟨.some 9, .none, .call 105 .pure [.t 8]⟩, ⟨.some 10, .none, .un .not (.t 9)⟩]) (.cond (.t 10) (.seq (.rg false [⟨.some 4, .none, .mv (.c (.slice .none 0 0))⟩, ⟨.some 5, .none, .mv (.c (.int .i64 1))⟩]) .ret) .skip)) (.seq (.rg false [⟨.some 12, .none, .mv (.t 1)⟩, ⟨.some 13, .none, .fa 7 (.t 2)⟩, ⟨.some 14, .none, .ld .none (.t 13)⟩, ⟨.some 15, .none, .call 116 .pure [.t 12, .t 14]⟩, ⟨.some 11, .none, .mv (.t 15)⟩, ⟨.some 16, .none, .ext (.t 11) 0⟩, ⟨.some 17, .none, .ext (.t 11) 1⟩, ⟨.some 6, .none, .mv (.t 16)⟩, ⟨.some 7, .none, .mv (.t 17)⟩]) (.seq (.seq (.rg false [⟨.some 18, .none, .mv (.t 7)⟩, ⟨.some 19, .none, .bin .neq (.t 18) (.c (.int .i64 0))⟩]) (.cond (.t 19) (.seq (.rg false [⟨.some 20, .none, .mv (.t 7)⟩, ⟨.some 4, .none, .mv (.c (.slice .none 0 0))⟩, ⟨.some 5, .none, .mv (.t 20)⟩]) .ret) .skip)) (.seq (.rg false [⟨.some 21, .none, .mv (.t 6)⟩, ⟨.some 22, .none, .fa 0 (.t 2)⟩, ⟨.some 23, .none, .ld .none (.t 22)⟩, ⟨.some 24, .none, .build (.agg #[.string ⟨#[]⟩, .string ⟨#[]⟩]) [(0, (1, .c (.string ⟨#[97, 108, 101, 114, 116]⟩))), (1, (1, .t 23))]⟩, ⟨.some 25, .none, .bsl 2 (.agg #[.string ⟨#[]⟩, .string ⟨#[]⟩]) 1 [(0, .t 24)]⟩, ⟨.some 26, .none, .call 116 .pure [.t 21, .t 25]⟩, ⟨.some 27, .none, .ext (.t 26) 0⟩, ⟨.some 28, .none, .ext (.t 26) 1⟩, ⟨.some 4, .none, .mv (.t 27)⟩, ⟨.some 5, .none, .mv (.t 28)⟩]) .ret))))))
section
variable {env : Nat → Option Def} {fr : Fr} {σ : St} {K : Fr → St → Prop} {Q : X → Fr → St → Prop}
theorem right_len {l : List Lab} (h : rightL l = true) : l.length ≤ 8 := by
  unfold rightL at h
  simp only [Bool.and_eq_true, decide_eq_true_eq] at h
  omega
end

section
variable {env : Nat → Option Def} {fr : Fr} {σ σ' : St} {K : Fr → St → Prop} {Q : X → Fr → St → Prop}
structure Seek (l : List Lab) (i : Nat) (a : List Lab) (m : Lab) (pb : PV) (k : Nat) (fr : Fr) (σ : St) : Prop where
  le : k ≤ a.length
  f9 : fr 9 = .sl (labs l)
  f11 : fr 11 = .sc (.int .i64 i)
  f10 : fr 10 = .sc (.int .i64 l.length)
  f5 : fr 5 = pb
  pb : ∃ g, pb = .bx 2000005 g 2 0 0 ∧ σ.m 2000005 g = some ⟨2, [lab m], true, true⟩ ∧ g < σ.c 2000005
  g3 : Gat σ [46] 2 false (fr 3) (labs a)
  f6 : fr 6 = .sc (.int .i64 k)
  ins : insAt m a a.length = insAt m a k
end

theorem less_before : ∀ a b : List UInt8, Op.bytesLess a b = bytesBefore a b
  | [], [] => rfl
  | [], _ :: _ => rfl
  | _ :: _, [] => rfl
  | a :: x, b :: y => by simp only [Op.bytesLess, bytesBefore, less_before x y]
theorem lessB_eq (a b : ByteArray) : lessB a b = bytesBefore a.data.toList b.data.toList := by
  unfold lessB; rw [less_before, ByteArray.toList_eq, ByteArray.toList_eq]
theorem lessB_trans {a b c : ByteArray} (h1 : lessB a b = true) (h2 : lessB b c = true) : lessB a c = true := by
  rw [lessB_eq] at *
  exact Go.WideShapes.bytes_trans _ _ _ h1 h2
theorem lessB_irrefl (a : ByteArray) : lessB a a = false := by rw [lessB_eq]; exact Go.WideAt.bytes_irrefl _
def Rising (l : List Lab) : Prop := l.Pairwise fun a b => lessB a.1 b.1 = true
def Apart (l : List Lab) : Prop := l.Pairwise fun a b => a.1 ≠ b.1
theorem Rising.apart {l : List Lab} (h : Rising l) : Apart l := h.imp fun hab he => by
  rw [he, lessB_irrefl] at hab
  cases hab
theorem nth_eq {l : List Lab} {i : Nat} (hi : i < l.length) : nth l i = l[i] := by unfold nth; rw [List.getElem?_eq_getElem hi]; rfl
theorem right_iff {l : List Lab} : rightL l = true ↔ (∀ m ∈ l, mayB m = true) ∧ Rising l ∧ l.length ≤ 8 := by
  constructor
  · intro h
    have h8 := right_len h
    refine ⟨fun m hm => ?_, ?_, h8⟩
    · obtain ⟨i, hi⟩ := List.getElem?_of_mem hm
      have hlt := (List.getElem?_eq_some_iff.1 hi).1
      have := rightL_may h hlt
      have e : nth l i = m := by unfold nth; rw [hi]; rfl
      rwa [e] at this
    · unfold rightL at h
      simp only [Bool.and_eq_true, Bool.not_eq_true', decide_eq_false_iff_not] at h
      have hb := found_no h.1
      have step : ∀ j, j + 1 < l.length → lessB (nth l j).1 (nth l (j + 1)).1 = true := by
        intro j hj
        have := hb (j + 1) hj
        unfold badL at this
        simp only [Bool.or_eq_false_iff, Bool.and_eq_false_iff, Bool.not_eq_false', decide_eq_false_iff_not] at this
        rcases this.2 with h2 | h2
        · omega
        · exact h2
      have far : ∀ d i, i + d + 1 < l.length → lessB (nth l i).1 (nth l (i + d + 1)).1 = true := by
        intro d
        induction d with
        | zero => intro i hi; exact step i hi
        | succ d ih => intro i hi; exact lessB_trans (ih i (by omega)) (step (i + d + 1) (by omega))
      unfold Rising
      rw [List.pairwise_iff_getElem]
      intro i j hi hj hij
      have := far (j - i - 1) i (by omega)
      rw [show i + (j - i - 1) + 1 = j from by omega, nth_eq hi, nth_eq hj] at this
      exact this
  · rintro ⟨h1, h2, h3⟩
    unfold rightL
    simp only [Bool.and_eq_true, Bool.not_eq_true', decide_eq_false_iff_not, decide_eq_true_eq]
    refine ⟨?_, by omega⟩
    have : found (badL l) l.length = -1 := by
      refine found_none fun j hj => ?_
      unfold badL
      rw [nth_eq hj, h1 _ (List.getElem_mem hj)]
      simp only [Bool.not_true, Bool.false_or, Bool.and_eq_false_iff, decide_eq_false_iff_not, Bool.not_eq_false']
      cases j with
      | zero => exact .inl (by omega)
      | succ j =>
        right
        have := List.pairwise_iff_getElem.1 h2 j (j + 1) (by omega) hj (by omega)
        rw [show j + 1 - 1 = j from rfl, nth_eq (show j < l.length by omega)]
        exact this
    rw [this]
    omega

def d176 : Def := (.code 1 [.tmp 2] (.seq (.rg false [⟨.some 1, .none, .box (.t 0)⟩, ⟨.some 2, .none, .mv (.c (.string ⟨#[]⟩))⟩]) (.seq (.rg true [⟨.some 3, .none, .fa 0 (.t 1)⟩, ⟨.some 4, .none, .ld .none (.t 3)⟩, ⟨.some 5, .none, .bin .add (.t 4) (.c (.string ⟨#[61, 34]⟩))⟩, ⟨.some 6, .none, .fa 1 (.t 1)⟩, ⟨.some 7, .none, .ld .none (.t 6)⟩, ⟨.some 8, .none, .call 215 .strict [.t 7, .c (.string ⟨#[92]⟩), .c (.string ⟨#[92, 92]⟩)]⟩, ⟨.some 9, .none, .call 215 .strict [.t 8, .c (.string ⟨#[34]⟩), .c (.string ⟨#[92, 34]⟩)]⟩, ⟨.some 10, .none, .bin .add (.t 5) (.t 9)⟩, ⟨.some 11, .none, .bin .add (.t 10) (.c (.string ⟨#[34]⟩))⟩, ⟨.some 2, .none, .mv (.t 11)⟩]) .ret)))
def d202 : Def := (.code 1 [.tmp 2, .tmp 3] (.seq (.rg false [⟨.some 2, .none, .mv (.c (.string ⟨#[]⟩))⟩, ⟨.some 3, .none, .mv (.c (.int .i64 0))⟩]) (.seq (.seq (.rg false [⟨.some 7, .none, .mv (.t 0)⟩, ⟨.some 8, .none, .call 113 .pure [.t 7]⟩, ⟨.some 9, .none, .un .not (.t 8)⟩]) (.cond (.t 9) (.seq (.rg false [⟨.some 2, .none, .mv (.c (.string ⟨#[]⟩))⟩, ⟨.some 3, .none, .mv (.c (.int .i64 1))⟩]) .ret) .skip)) (.seq (.rg false [⟨.some 4, .none, .mv (.c (.slice .none 0 0))⟩]) (.seq (.seq (.rg false [⟨.some 10, .none, .mv (.t 0)⟩, ⟨.some 11, .none, .call 134 .opn [.t 10]⟩, ⟨.some 12, .none, .lenL (.t 11)⟩, ⟨.some 13, .none, .mv (.c (.int .i64 0))⟩]) (.block 0 (.loop (.seq (.rg false [⟨.some 14, .none, .bin .lss (.t 13) (.t 12)⟩]) (.seq (.cond (.t 14) .skip (.exit 0)) (.seq (.block 1 (.seq (.rg false [⟨.some 15, .none, .ia 2 (.t 11) (.t 13)⟩, ⟨.some 16, .none, .ld (.some 2) (.t 15)⟩, ⟨.some 6, .none, .box (.c (.agg #[.string ⟨#[]⟩, .string ⟨#[]⟩]))⟩, ⟨.none, .none, .st 2 (.t 6) (.t 16)⟩]) (.rg false [⟨.some 17, .none, .mv (.t 4)⟩, ⟨.some 18, .none, .ld (.some 2) (.t 6)⟩, ⟨.some 19, .none, .call 176 .pure [.t 18]⟩, ⟨.some 20, .none, .bsl 1 (.string ⟨#[]⟩) 1 [(0, .t 19)]⟩, ⟨.some 21, .none, .app 1 16 false (.t 17) (.t 20)⟩, ⟨.some 4, .none, .mv (.t 21)⟩]))) (.rg false [⟨.some 22, .none, .bin .add (.t 13) (.c (.int .i64 1))⟩, ⟨.some 13, .none, .mv (.t 22)⟩]))))))) (.seq (.rg false [⟨.some 23, .none, .mv (.t 4)⟩, ⟨.some 24, .none, .call 23 .pure [.t 23, .c (.string ⟨#[44]⟩)]⟩, ⟨.some 25, .none, .bin .add (.c (.string ⟨#[123]⟩)) (.t 24)⟩, ⟨.some 26, .none, .bin .add (.t 25) (.c (.string ⟨#[125]⟩))⟩, ⟨.some 2, .none, .mv (.t 26)⟩, ⟨.some 3, .none, .mv (.c (.int .i64 0))⟩]) .ret))))))
def d211 : Def := (.code 1 [.tmp 2] (.seq (.rg false [⟨.some 2, .none, .mv (.c (.string ⟨#[]⟩))⟩]) (.seq (.rg false [⟨.some 7, .none, .bsl 1 (.int .u8 0) 1 [(0, .c (.int .u8 123))]⟩, ⟨.some 3, .none, .mv (.t 7)⟩]) (.seq (.seq (.rg false [⟨.some 8, .none, .mv (.t 0)⟩, ⟨.some 9, .none, .lenL (.t 8)⟩, ⟨.some 10, .none, .mv (.c (.int .i64 0))⟩]) (.block 0 (.loop (.seq (.rg false [⟨.some 11, .none, .bin .lss (.t 10) (.t 9)⟩]) (.seq (.cond (.t 11) .skip (.exit 0)) (.seq (.block 1 (.seq (.rg false [⟨.some 12, .none, .mv (.t 10)⟩, ⟨.some 13, .none, .ia 2 (.t 8) (.t 10)⟩, ⟨.some 14, .none, .ld (.some 2) (.t 13)⟩, ⟨.some 5, .none, .box (.c (.agg #[.string ⟨#[]⟩, .string ⟨#[]⟩]))⟩, ⟨.some 4, .none, .mv (.t 12)⟩, ⟨.none, .none, .st 2 (.t 5) (.t 14)⟩]) (.seq (.seq (.rg false [⟨.some 15, .none, .mv (.t 4)⟩, ⟨.some 16, .none, .bin .gtr (.t 15) (.c (.int .i64 0))⟩]) (.cond (.t 16) (.rg false [⟨.some 17, .none, .mv (.t 3)⟩, ⟨.some 18, .none, .bsl 1 (.int .u8 0) 1 [(0, .c (.int .u8 44))]⟩, ⟨.some 19, .none, .app 1 1 false (.t 17) (.t 18)⟩, ⟨.some 3, .none, .mv (.t 19)⟩]) .skip)) (.seq (.rg false [⟨.some 20, .none, .mv (.t 3)⟩, ⟨.some 21, .none, .fa 0 (.t 5)⟩, ⟨.some 22, .none, .ld .none (.t 21)⟩, ⟨.some 23, .none, .s2b (.t 22)⟩, ⟨.some 24, .none, .app 1 1 false (.t 20) (.t 23)⟩, ⟨.some 3, .none, .mv (.t 24)⟩]) (.seq (.rg false [⟨.some 25, .none, .mv (.t 3)⟩, ⟨.some 26, .none, .bsl 1 (.int .u8 0) 2 [(0, .c (.int .u8 61)), (1, .c (.int .u8 34))]⟩, ⟨.some 27, .none, .app 1 1 false (.t 25) (.t 26)⟩, ⟨.some 3, .none, .mv (.t 27)⟩]) (.seq (.seq (.rg false [⟨.some 6, .none, .mv (.c (.int .i64 0))⟩]) (.block 2 (.loop (.seq (.seq (.rg false [⟨.some 28, .none, .mv (.t 6)⟩, ⟨.some 29, .none, .fa 1 (.t 5)⟩, ⟨.some 30, .none, .ld .none (.t 29)⟩, ⟨.some 31, .none, .lenS (.t 30)⟩, ⟨.some 32, .none, .bin .lss (.t 28) (.t 31)⟩]) (.cond (.t 32) .skip (.exit 2))) (.seq (.block 3 (.seq (.seq (.rg false [⟨.some 35, .none, .fa 1 (.t 5)⟩, ⟨.some 36, .none, .ld .none (.t 35)⟩, ⟨.some 37, .none, .mv (.t 6)⟩, ⟨.some 38, .none, .ix (.t 36) (.t 37)⟩, ⟨.some 39, .none, .bin .eql (.t 38) (.c (.int .u8 34))⟩, ⟨.some 40, .none, .mv (.t 39)⟩, ⟨.some 41, .some (40, false), .fa 1 (.t 5)⟩, ⟨.some 42, .some (40, false), .ld .none (.t 41)⟩, ⟨.some 43, .some (40, false), .mv (.t 6)⟩, ⟨.some 44, .some (40, false), .ix (.t 42) (.t 43)⟩, ⟨.some 45, .some (40, false), .bin .eql (.t 44) (.c (.int .u8 92))⟩, ⟨.some 46, .none, .pick (.t 40) (.c (.bool true)) (.t 45)⟩]) (.cond (.t 46) (.rg false [⟨.some 47, .none, .mv (.t 3)⟩, ⟨.some 48, .none, .bsl 1 (.int .u8 0) 1 [(0, .c (.int .u8 92))]⟩, ⟨.some 49, .none, .app 1 1 false (.t 47) (.t 48)⟩, ⟨.some 3, .none, .mv (.t 49)⟩]) .skip)) (.rg false [⟨.some 50, .none, .mv (.t 3)⟩, ⟨.some 51, .none, .fa 1 (.t 5)⟩, ⟨.some 52, .none, .ld .none (.t 51)⟩, ⟨.some 53, .none, .mv (.t 6)⟩, ⟨.some 54, .none, .ix (.t 52) (.t 53)⟩, ⟨.some 55, .none, .bsl 1 (.int .u8 0) 1 [(0, .t 54)]⟩, ⟨.some 56, .none, .app 1 1 false (.t 50) (.t 55)⟩, ⟨.some 3, .none, .mv (.t 56)⟩]))) (.rg false [⟨.some 33, .none, .mv (.t 6)⟩, ⟨.some 34, .none, .bin .add (.t 33) (.c (.int .i64 1))⟩, ⟨.some 6, .none, .mv (.t 34)⟩])))))) (.rg false [⟨.some 57, .none, .mv (.t 3)⟩, ⟨.some 58, .none, .bsl 1 (.int .u8 0) 1 [(0, .c (.int .u8 34))]⟩, ⟨.some 59, .none, .app 1 1 false (.t 57) (.t 58)⟩, ⟨.some 3, .none, .mv (.t 59)⟩]))))))) (.rg false [⟨.some 60, .none, .bin .add (.t 10) (.c (.int .i64 1))⟩, ⟨.some 10, .none, .mv (.t 60)⟩]))))))) (.seq (.rg false [⟨.some 61, .none, .mv (.t 3)⟩, ⟨.some 62, .none, .bsl 1 (.int .u8 0) 1 [(0, .c (.int .u8 125))]⟩, ⟨.some 63, .none, .app 1 1 false (.t 61) (.t 62)⟩, ⟨.some 3, .none, .mv (.t 63)⟩]) (.seq (.rg false [⟨.some 64, .none, .mv (.t 3)⟩, ⟨.some 65, .none, .b2s (.t 64)⟩, ⟨.some 2, .none, .mv (.t 65)⟩]) .ret))))))
def lu : List (Nat × Def) := [(176, d176), (202, d202), (211, d211), (23, .prim joinF), (215, .prim replF)]
section
variable {env : Nat → Option Def} {fr : Fr} {σ σ' : St} {K : Fr → St → Prop} {Q : X → Fr → St → Prop}
/-! ### a byte that is replaced -/
def rep1 (c : UInt8) (new : List UInt8) (s : List UInt8) : List UInt8 := s.flatMap fun b => if b = c then new else [b]
theorem idx_none {c : UInt8} {new : List UInt8} : ∀ {s : List UInt8}, Lib.index s [c] = -1 → rep1 c new s = s
  | [], _ => rfl
  | b :: l, h => by
    unfold Lib.index at h
    by_cases hb : b = c
    · subst hb; simp at h
    · have hp : [c].isPrefixOf (b :: l) = false := by simp [List.isPrefixOf, Ne.symm hb]
      rw [hp] at h
      simp only [Bool.false_eq_true, if_false] at h
      have h2 : Lib.index l [c] = -1 := by
        split at h
        · rename_i h3; simpa using h3
        · have := Lib.index_ge l [c]; rename_i h3; omega
      have := idx_none (new := new) h2
      unfold rep1 at this ⊢
      simp [hb, this]
theorem idx_some {c : UInt8} {new : List UInt8} : ∀ {s : List UInt8} {i : Nat}, Lib.index s [c] = i → s.take i ++ new ++ rep1 c new (s.drop (i + 1)) = rep1 c new s
  | [], i, h => by simp [Lib.index] at h
  | b :: l, i, h => by
    unfold Lib.index at h
    by_cases hb : b = c
    · subst hb
      have hp : [b].isPrefixOf (b :: l) = true := by simp [List.isPrefixOf]
      rw [hp, if_pos rfl] at h
      have : i = 0 := by omega
      subst this
      simp [rep1]
    · have hp : [c].isPrefixOf (b :: l) = false := by simp [List.isPrefixOf, Ne.symm hb]
      rw [hp] at h
      simp only [Bool.false_eq_true, if_false] at h
      split at h
      · omega
      · rename_i h3
        have hge := Lib.index_ge l [c]
        have hne : Lib.index l [c] ≠ -1 := by simpa using h3
        obtain ⟨j, rfl⟩ : ∃ j, i = j + 1 := ⟨i - 1, by omega⟩
        have := idx_some (c := c) (new := new) (s := l) (i := j) (by omega)
        unfold rep1 at this ⊢
        simp only [List.take_succ_cons, List.drop_succ_cons, List.flatMap_cons, hb, if_false, List.cons_append, List.nil_append]
        rw [← this]
theorem replaceK_one {c : UInt8} {new : List UInt8} : ∀ (n : Nat) (s : List UInt8), s.length < n → Lib.replaceK [c] new (Lib.countFrom [c] n s) s = rep1 c new s
  | 0, s, h => by omega
  | n + 1, s, h => by
    unfold Lib.countFrom
    by_cases hi : Lib.index s [c] = -1
    · rw [if_pos (by simpa using hi)]
      exact (idx_none hi).symm
    · have hge := Lib.index_ge s [c]
      obtain ⟨i, hi'⟩ : ∃ i : Nat, Lib.index s [c] = i := ⟨(Lib.index s [c]).toNat, by omega⟩
      rw [if_neg (by simpa using hi), Nat.add_comm, Lib.replaceK_hit [c] new _ s i hi', hi', Int.toNat_natCast]
      have hroom := Lib.index_room s [c] (by omega)
      have hlen : (s.drop (i + [c].length)).length < n := by
        simp only [List.length_drop, List.length_cons, List.length_nil] at hroom ⊢
        omega
      rw [replaceK_one n _ hlen]
      exact idx_some hi'
theorem replaceAll_one {c : UInt8} {new : List UInt8} (hne : new ≠ [c]) (s : List UInt8) : Lib.replaceAll s [c] new = rep1 c new s := by
  unfold Lib.replaceAll Lib.replace
  have h1 : ([c] == new) = false := by simpa using Ne.symm hne
  rw [h1]
  simp only [Bool.false_eq_true, if_false]
  have h2 : Lib.replaceNum s [c] (-1) = Lib.count s [c] := by unfold Lib.replaceNum; rw [if_pos (.inl (by decide))]
  rw [h2]
  exact replaceK_one _ s (by omega)
def esc (s : List UInt8) : List UInt8 := s.flatMap fun b => if b = 34 ∨ b = 92 then [92, b] else [b]
theorem esc_two (s : List UInt8) : rep1 34 [92, 34] (rep1 92 [92, 92] s) = esc s := by
  unfold rep1 esc
  rw [List.flatMap_assoc]
  congr 1
  funext b
  by_cases h1 : b = 92
  · subst h1; decide
  · by_cases h2 : b = 34
    · subst h2; decide
    · simp [h1, h2]
theorem rep1_len {c : UInt8} {new : List UInt8} (hn : new.length ≤ 2) (s : List UInt8) : (rep1 c new s).length ≤ 2 * s.length := by
  unfold rep1
  induction s with
  | nil => simp
  | cons b l ih =>
    simp only [List.flatMap_cons, List.length_append, List.length_cons]
    split
    · omega
    · simp only [List.length_cons, List.length_nil]; omega
theorem esc_len (s : List UInt8) : (esc s).length ≤ 2 * s.length := by
  unfold esc
  induction s with
  | nil => simp
  | cons b l ih =>
    simp only [List.flatMap_cons, List.length_append, List.length_cons]
    split
    · simp only [List.length_cons, List.length_nil]; omega
    · simp only [List.length_cons, List.length_nil]; omega
def escS (s : ByteArray) : ByteArray := ⟨(esc s.data.toList).toArray⟩
theorem a215 (U : Has lu env) {s old new : ByteArray} (h : s.size < 4294967281 ∧ 1 ≤ old.size ∧ s.size + Lib.countB s old * new.size ≤ 140737488355328) :
    AV env 215 [.sc (.string s), .sc (.string old), .sc (.string new)] = some (.sc (.string ⟨(Lib.replaceAll s.data.toList old.data.toList new.data.toList).toArray⟩)) := by
  have hp := U (215, .prim replF) (by simp [lu])
  refine AV_of (σ := St.nil) (r := .sc (.string ⟨(Lib.replaceAll s.data.toList old.data.toList new.data.toList).toArray⟩)) (EV_of (n := 1) ?_) rfl
  simp only [evF, hp, replF]
  rw [if_pos h]
theorem a215a (U : Has lu env) {s : ByteArray} (hs : s.size ≤ 1000) : AV env 215 [.sc (.string s), .sc (.string ⟨#[92]⟩), .sc (.string ⟨#[92, 92]⟩)] = some (.sc (.string ⟨(rep1 92 [92, 92] s.data.toList).toArray⟩)) := by
  have hc := Lib.countB_le ⟨#[92]⟩ (by decide) s.size s (Nat.le_refl _)
  have h := a215 U (s := s) (old := ⟨#[92]⟩) (new := ⟨#[92, 92]⟩) ⟨by omega, by decide, by
    have : (⟨#[92, 92]⟩ : ByteArray).size = 2 := rfl
    rw [this]; omega⟩
  rw [h]
  have : Lib.replaceAll s.data.toList (⟨#[92]⟩ : ByteArray).data.toList (⟨#[92, 92]⟩ : ByteArray).data.toList = rep1 92 [92, 92] s.data.toList := replaceAll_one (by decide) _
  rw [this]
theorem a215b (U : Has lu env) {s : ByteArray} (hs : s.size ≤ 1000) : AV env 215 [.sc (.string s), .sc (.string ⟨#[34]⟩), .sc (.string ⟨#[92, 34]⟩)] = some (.sc (.string ⟨(rep1 34 [92, 34] s.data.toList).toArray⟩)) := by
  have hc := Lib.countB_le ⟨#[34]⟩ (by decide) s.size s (Nat.le_refl _)
  have h := a215 U (s := s) (old := ⟨#[34]⟩) (new := ⟨#[92, 34]⟩) ⟨by omega, by decide, by
    have : (⟨#[92, 34]⟩ : ByteArray).size = 2 := rfl
    rw [this]; omega⟩
  rw [h]
  have : Lib.replaceAll s.data.toList (⟨#[34]⟩ : ByteArray).data.toList (⟨#[92, 34]⟩ : ByteArray).data.toList = rep1 34 [92, 34] s.data.toList := replaceAll_one (by decide) _
  rw [this]
def markS (m : Lab) : ByteArray := ((m.1 ++ ⟨#[61, 34]⟩) ++ escS m.2) ++ ⟨#[34]⟩
theorem a176 (U : Has lu env) {m : Lab} (h1 : m.1.size ≤ 64) (h2 : m.2.size ≤ 64) : AV env 176 [lab m] = some (.sc (.string (markS m))) := by
  have ha := a215a U (s := m.2) (by omega)
  have l1 := rep1_len (c := 92) (new := [92, 92]) (by decide) m.2.data.toList
  have l0 : m.2.data.toList.length = m.2.size := by simp
  have s1 : (⟨(rep1 92 [92, 92] m.2.data.toList).toArray⟩ : ByteArray).size = (rep1 92 [92, 92] m.2.data.toList).length := by simp [ByteArray.size]
  have hb := a215b U (s := ⟨(rep1 92 [92, 92] m.2.data.toList).toArray⟩) (by omega)
  have e1 : (⟨(rep1 34 [92, 34] (⟨(rep1 92 [92, 92] m.2.data.toList).toArray⟩ : ByteArray).data.toList).toArray⟩ : ByteArray) = escS m.2 := by
    unfold escS
    rw [← esc_two]
  rw [e1] at hb
  have l2 := esc_len m.2.data.toList
  have s2 : (escS m.2).size = (esc m.2.data.toList).length := by simp [escS, ByteArray.size]
  have q1 : m.1.size + (⟨#[61, 34]⟩ : ByteArray).size ≤ 9223372036854775807 := by
    have : (⟨#[61, 34]⟩ : ByteArray).size = 2 := rfl
    omega
  have q2 : (m.1 ++ ⟨#[61, 34]⟩).size + (escS m.2).size ≤ 9223372036854775807 := by
    rw [ByteArray.size_append]
    have : (⟨#[61, 34]⟩ : ByteArray).size = 2 := rfl
    omega
  have q3 : ((m.1 ++ ⟨#[61, 34]⟩) ++ escS m.2).size + (⟨#[34]⟩ : ByteArray).size ≤ 9223372036854775807 := by
    rw [ByteArray.size_append, ByteArray.size_append]
    have : (⟨#[61, 34]⟩ : ByteArray).size = 2 := rfl
    have : (⟨#[34]⟩ : ByteArray).size = 1 := rfl
    omega
  refine AV_wp (U (176, d176) (by simp [lu])) rfl ?_
  unfold lab
  (repeat' first
    | refine w_seq ?_ | refine w_rg ?_ | refine wo_nil ?_ | refine g_skU ?_ | refine g_skT ?_ | refine g_skF ?_
    | ((first | apply s_plain | apply s_void | apply s_guard | apply g_goT | apply g_goF); · simp only [go_sem, Nat.reduceEqDiff, Nat.reduceAdd, Nat.reduceLeDiff, ha, hb, q1, q2, q3]; (first | done | rfl))
    | ((first | apply g_T | apply g_F | apply g_gT | apply g_gF); · intro q1_; (first | intro q2_ | have q2_ := q1_); simp only [go_sem, Nat.reduceEqDiff, Nat.reduceAdd, Nat.reduceLeDiff, ha, hb, q1, q2, q3, q1_, q2_]; (first | done | rfl))
    | (apply w_condX; · simp only [go_sem, Nat.reduceEqDiff, Nat.reduceAdd, Nat.reduceLeDiff, ha, hb, q1, q2, q3]; (first | done | rfl)); (first | refine wcd_T ?_ | refine wcd_F ?_)
    | refine w_skip ?_ | refine w_exit ?_ | refine w_ret ?_
    | fail
    )
  exact ⟨.inr rfl, by simp only [go_sem, Nat.reduceEqDiff, Nat.reduceAdd, Nat.reduceLeDiff, retOf, resOf]; first | done | rfl⟩
def partsP (l : List Lab) : List PV := l.map fun m => .sc (.string (markS m))
def bodyS (l : List Lab) : ByteArray := ⟨(Lib.join (l.map fun m => (markS m).data.toList) [44]).toArray⟩
def textS (l : List Lab) : ByteArray := (⟨#[123]⟩ ++ bodyS l) ++ ⟨#[125]⟩
theorem parts_fz (σ : St) (l : List Lab) : (partsP l).mapM (fz σ 11) = some (partsP l) := by
  induction l with
  | nil => rfl
  | cons m r ih =>
    show List.mapM (fz σ 11) (.sc (.string (markS m)) :: partsP r) = _
    rw [mapM_cons', ih]
    rfl
theorem parts_str (l : List Lab) : (partsP l).mapM strOf = some (l.map markS) := by
  induction l with
  | nil => rfl
  | cons m r ih =>
    show List.mapM strOf (.sc (.string (markS m)) :: partsP r) = _
    rw [mapM_cons', ih]
    rfl
theorem mark_size {m : Lab} (h1 : m.1.size ≤ 64) (h2 : m.2.size ≤ 64) : (markS m).data.toList.length ≤ 200 := by
  have l2 := esc_len m.2.data.toList
  have l0 : m.2.data.toList.length = m.2.size := by simp
  have s2 : (escS m.2).size = (esc m.2.data.toList).length := by simp [escS, ByteArray.size]
  have : (markS m).data.toList.length = (markS m).size := by simp
  rw [this]
  unfold markS
  rw [ByteArray.size_append, ByteArray.size_append, ByteArray.size_append]
  have : (⟨#[61, 34]⟩ : ByteArray).size = 2 := rfl
  have : (⟨#[34]⟩ : ByteArray).size = 1 := rfl
  omega
theorem join_len (sep : List UInt8) : ∀ (xs : List (List UInt8)), (∀ x ∈ xs, x.length ≤ 200) → sep.length ≤ 1 → (Lib.join xs sep).length ≤ 201 * xs.length
  | [], _, _ => by simp [Lib.join]
  | x :: r, h, hs => by
    rw [Lib.join_cons]
    have hx := h x (by simp)
    have : ∀ r : List (List UInt8), (∀ x ∈ r, x.length ≤ 200) → (Lib.joinTail sep r).length ≤ 201 * r.length := by
      intro r
      induction r with
      | nil => intro _; simp [Lib.joinTail]
      | cons y r ih =>
        intro h
        have hy := h y (by simp)
        have := ih fun x hx => h x (by simp [hx])
        unfold Lib.joinTail at this ⊢
        simp only [List.map_cons, List.flatten_cons, List.length_append, List.length_cons]
        omega
    have := this r fun x hx => h x (by simp [hx])
    simp only [List.length_append, List.length_cons]
    omega
theorem a23 (U : Has lu env) {l : List Lab} (h1 : ∀ m ∈ l, m.1.size ≤ 64 ∧ m.2.size ≤ 64) (h8 : l.length ≤ 8) : AV env 23 [.sl (partsP l), .sc (.string ⟨#[44]⟩)] = some (.sc (.string (bodyS l))) := by
  have hp := U (23, .prim joinF) (by simp [lu])
  refine AV_of (σ := St.nil) (r := .sc (.string (bodyS l))) (EV_of (n := 1) ?_) rfl
  simp only [evF, hp, joinF, parts_str, Option.bind_some]
  have hm : (l.map markS).map (·.data.toList) = l.map fun m => (markS m).data.toList := by simp
  have hj := join_len [44] (l.map fun m => (markS m).data.toList) (fun x hx => by
    obtain ⟨m, hm, rfl⟩ := List.mem_map.1 hx
    exact mark_size (h1 m hm).1 (h1 m hm).2) (by simp)
  rw [List.length_map] at hj
  rw [hm, if_pos ⟨by rw [List.length_map]; omega, by
    show (Lib.join _ [44]).length ≤ _
    omega⟩]
  rfl
theorem may_size {m : Lab} (h : mayB m = true) : m.1.size ≤ 64 ∧ m.2.size ≤ 64 := by
  unfold mayB nameB valueB at h
  simp only [Bool.and_eq_true, decide_eq_true_eq] at h
  omega
theorem a202 (H : Has la0 env) (G : Has lc env) (P : Has lp env) (U : Has lu env) {l : List Lab} (hn : l.length ≤ 9223372036854775807) (hl : Smalls l) :
    AV env 202 [.sl (labs l)] = some (.tu [.sc (.string (if rightL l = true then textS l else ⟨#[]⟩)), .sc (.int .i64 (if rightL l = true then 0 else 1))]) := by
  have hll := labs_len l
  have h113 := a113 H G hn hl
  refine AV_wp (U (202, d202) (by simp [lu])) rfl ?_
  (repeat' first
    | refine w_seq ?_ | refine w_rg ?_ | refine wo_nil ?_ | refine g_skU ?_ | refine g_skT ?_ | refine g_skF ?_
    | ((first | apply s_plain | apply s_void | apply s_guard | apply g_goT | apply g_goF); · simp only [go_sem, Nat.reduceEqDiff, Nat.reduceAdd, Nat.reduceLeDiff, h113]; (first | done | rfl))
    | ((first | apply g_T | apply g_F | apply g_gT | apply g_gF); · intro q1_; (first | intro q2_ | have q2_ := q1_); simp only [go_sem, Nat.reduceEqDiff, Nat.reduceAdd, Nat.reduceLeDiff, h113, q1_, q2_]; (first | done | rfl))
    | fail
    )
  cases hr : rightL l with
  | false =>
    (repeat' first
    | refine w_seq ?_ | refine w_rg ?_ | refine wo_nil ?_ | refine g_skU ?_ | refine g_skT ?_ | refine g_skF ?_
    | ((first | apply s_plain | apply s_void | apply s_guard | apply g_goT | apply g_goF); · simp only [go_sem, Nat.reduceEqDiff, Nat.reduceAdd, Nat.reduceLeDiff]; (first | done | rfl))
    | ((first | apply g_T | apply g_F | apply g_gT | apply g_gF); · intro q1_; (first | intro q2_ | have q2_ := q1_); simp only [go_sem, Nat.reduceEqDiff, Nat.reduceAdd, Nat.reduceLeDiff, q1_, q2_]; (first | done | rfl))
    | (apply w_condX; · simp only [go_sem, Nat.reduceEqDiff, Nat.reduceAdd, Nat.reduceLeDiff]; (first | done | rfl)); (first | refine wcd_T ?_ | refine wcd_F ?_)
    | refine w_skip ?_ | refine w_exit ?_ | refine w_ret ?_
    | fail
    )
    exact ⟨.inr rfl, by simp only [go_sem, Nat.reduceEqDiff, Nat.reduceAdd, Nat.reduceLeDiff, retOf, resOf]; first | done | rfl⟩
  | true =>
    obtain ⟨hmay, _, h8⟩ := right_iff.1 hr
    have hsz : ∀ m ∈ l, m.1.size ≤ 64 ∧ m.2.size ≤ 64 := fun m hm => may_size (hmay m hm)
    obtain ⟨r, σ1, h134, hg⟩ := a134 (σ := St.nil) P (l := l) (by omega)
    (repeat' first
    | refine w_seq ?_ | refine w_rg ?_ | refine wo_nil ?_ | refine g_skU ?_ | refine g_skT ?_ | refine g_skF ?_
    | ((first | apply s_plain | apply s_void | apply s_guard | apply g_goT | apply g_goF); · simp only [go_sem, Nat.reduceEqDiff, Nat.reduceAdd, Nat.reduceLeDiff]; (first | done | rfl))
    | ((first | apply g_T | apply g_F | apply g_gT | apply g_gF); · intro q1_; (first | intro q2_ | have q2_ := q1_); simp only [go_sem, Nat.reduceEqDiff, Nat.reduceAdd, Nat.reduceLeDiff, q1_, q2_]; (first | done | rfl))
    | (apply w_condX; · simp only [go_sem, Nat.reduceEqDiff, Nat.reduceAdd, Nat.reduceLeDiff]; (first | done | rfl)); (first | refine wcd_T ?_ | refine wcd_F ?_)
    | refine w_skip ?_ | refine w_exit ?_ | refine w_ret ?_
    | fail
    )
    (repeat' first
    | refine w_seq ?_ | refine w_rg ?_ | refine wo_nil ?_ | refine g_skU ?_ | refine g_skT ?_ | refine g_skF ?_
    | ((first | apply s_plain | apply s_void | apply s_guard | apply g_goT | apply g_goF); · simp only [go_sem, Nat.reduceEqDiff, Nat.reduceAdd, Nat.reduceLeDiff, h134]; (first | done | rfl))
    | ((first | apply g_T | apply g_F | apply g_gT | apply g_gF); · intro q1_; (first | intro q2_ | have q2_ := q1_); simp only [go_sem, Nat.reduceEqDiff, Nat.reduceAdd, Nat.reduceLeDiff, h134, q1_, q2_]; (first | done | rfl))
    | fail
    )
    refine s_plain (gat_len hg (by simp only [go_sem, Nat.reduceEqDiff, Nat.reduceAdd, Nat.reduceLeDiff])) ?_
    (repeat' first
    | refine w_seq ?_ | refine w_rg ?_ | refine wo_nil ?_ | refine g_skU ?_ | refine g_skT ?_ | refine g_skF ?_
    | ((first | apply s_plain | apply s_void | apply s_guard | apply g_goT | apply g_goF); · simp only [go_sem, Nat.reduceEqDiff, Nat.reduceAdd, Nat.reduceLeDiff, hll]; (first | done | rfl))
    | ((first | apply g_T | apply g_F | apply g_gT | apply g_gF); · intro q1_; (first | intro q2_ | have q2_ := q1_); simp only [go_sem, Nat.reduceEqDiff, Nat.reduceAdd, Nat.reduceLeDiff, hll, q1_, q2_]; (first | done | rfl))
    | fail
    )
    refine w_block (w_range l.length hn (fun i fr σ => Gat σ [15] 2 true (fr 11) (labs l) ∧ Gat σ [21] 1 false (fr 4) (partsP (l.take i))) (by decide) ?_ ?_ ?_ _ _ ?_ ?_ ?_)
    · rintro i fr σ v ⟨h0, h1⟩
      refine ⟨⟨?_, ?_⟩, ⟨?_, ?_⟩, ⟨?_, ?_⟩⟩ <;> simp only [go_sem, Nat.reduceEqDiff, Nat.reduceAdd, Nat.reduceLeDiff, h0, h1]
    · rintro i fr σ hi ⟨g11, hg⟩ hti htn
      rcases g11 with ⟨_, hnil⟩ | ⟨o, g, wr, ho, q11, qm, qc, qne, qw⟩
      · exfalso
        have := congrArg List.length hnil
        rw [hll] at this
        simp only [List.length_nil] at this
        omega
      · have ho' : o = 15 := by simpa using ho
        subst ho'
        have g11 : Gat σ [15] 2 true (fr 11) (labs l) := .inr ⟨15, g, wr, ho, q11, qm, qc, qne, qw⟩
        rw [hll] at q11
        have hy := labs_at (List.getElem?_eq_getElem hi)
        have e1 : (0 : Int) ≤ (i : Int) ∧ (i : Int) < (l.length : Int) := by omega
        have h176 := a176 U (m := l[i]) (hsz _ (List.getElem_mem hi)).1 (hsz _ (List.getElem_mem hi)).2
        refine w_block ?_
        simp only [lab] at hy h176
        (repeat' first
    | refine w_seq ?_ | refine w_rg ?_ | refine wo_nil ?_ | refine g_skU ?_ | refine g_skT ?_ | refine g_skF ?_
    | ((first | apply s_plain | apply s_void | apply s_guard | apply g_goT | apply g_goF); · simp only [go_sem, Nat.reduceEqDiff, Nat.reduceAdd, Nat.reduceLeDiff, q11, qm, hti, e1, Int.toNat_natCast, hy, h176, List.modify_zero_cons, fillE, List.replicate_succ, List.replicate_zero, List.set_cons_zero, List.drop_zero]; (first | done | rfl))
    | ((first | apply g_T | apply g_F | apply g_gT | apply g_gF); · intro q1_; (first | intro q2_ | have q2_ := q1_); simp only [go_sem, Nat.reduceEqDiff, Nat.reduceAdd, Nat.reduceLeDiff, q11, qm, hti, e1, Int.toNat_natCast, hy, h176, List.modify_zero_cons, fillE, List.replicate_succ, List.replicate_zero, List.set_cons_zero, List.drop_zero, q1_, q2_]; (first | done | rfl))
    | fail
    )
        have hpt : partsP (l.take (i + 1)) = partsP (l.take i) ++ [.sc (.string (markS l[i]))] := by
          rw [List.take_succ_eq_append_getElem hi]; simp only [partsP, List.map_append, List.map_cons, List.map_nil]
        have hlen : (partsP (l.take i)).length ≤ 8 := by simp [partsP, List.length_take]; omega
        refine s_gatL (os := [21]) (w := false) (ys := [.sc (.string (markS l[i]))]) (by simp only [go_sem, Nat.reduceEqDiff, Nat.reduceAdd, Nat.reduceLeDiff]; exact ((hg.new _).put (d := 2000006) (by decide) _).new _) (by simp only [go_sem, Nat.reduceEqDiff, Nat.reduceAdd, Nat.reduceLeDiff, srcOf, elemsOf]) rfl (by simp; omega) ?_
        intro p σ' hg2 kp
        rw [Bool.false_and, ← hpt] at hg2
        (repeat' first
    | refine w_seq ?_ | refine w_rg ?_ | refine wo_nil ?_ | refine g_skU ?_ | refine g_skT ?_ | refine g_skF ?_
    | ((first | apply s_plain | apply s_void | apply s_guard | apply g_goT | apply g_goF); · simp only [go_sem, Nat.reduceEqDiff, Nat.reduceAdd, Nat.reduceLeDiff]; (first | done | rfl))
    | ((first | apply g_T | apply g_F | apply g_gT | apply g_gF); · intro q1_; (first | intro q2_ | have q2_ := q1_); simp only [go_sem, Nat.reduceEqDiff, Nat.reduceAdd, Nat.reduceLeDiff, q1_, q2_]; (first | done | rfl))
    | fail
    )
        refine ⟨⟨?_, ?_⟩, ?_, ?_⟩
        · simp only [go_sem, Nat.reduceEqDiff, Nat.reduceAdd, Nat.reduceLeDiff]; exact ((((g11.new _).put (d := 2000006) (by decide) _).new _).keep kp (by simp))
        · simp only [go_sem, Nat.reduceEqDiff, Nat.reduceAdd, Nat.reduceLeDiff]; exact hg2
        · simp only [go_sem, Nat.reduceEqDiff, Nat.reduceAdd, Nat.reduceLeDiff, hti]
        · simp only [go_sem, Nat.reduceEqDiff, Nat.reduceAdd, Nat.reduceLeDiff, htn]
    · rintro fr σ ⟨_, hg⟩
      try simp only [if_true]
      rw [List.take_of_length_le (Nat.le_refl _)] at hg
      have hfz := hg.fz (parts_fz σ _)
      have h23 := a23 U hsz h8
      have bl : (bodyS l).size ≤ 1608 := by
        have hj := join_len [44] (l.map fun m => (markS m).data.toList) (fun x hx => by
          obtain ⟨m, hm, rfl⟩ := List.mem_map.1 hx
          exact mark_size (hsz m hm).1 (hsz m hm).2) (by simp)
        rw [List.length_map] at hj
        simp only [bodyS, ByteArray.size, List.size_toArray]
        omega
      have q1 : (⟨#[123]⟩ : ByteArray).size + (bodyS l).size ≤ 9223372036854775807 := by
        have : (⟨#[123]⟩ : ByteArray).size = 1 := rfl
        omega
      have q2 : (⟨#[123]⟩ ++ bodyS l).size + (⟨#[125]⟩ : ByteArray).size ≤ 9223372036854775807 := by
        rw [ByteArray.size_append]
        have : (⟨#[123]⟩ : ByteArray).size = 1 := rfl
        have : (⟨#[125]⟩ : ByteArray).size = 1 := rfl
        omega
      (repeat' first
    | refine w_seq ?_ | refine w_rg ?_ | refine wo_nil ?_ | refine g_skU ?_ | refine g_skT ?_ | refine g_skF ?_
    | ((first | apply s_plain | apply s_void | apply s_guard | apply g_goT | apply g_goF); · simp only [go_sem, Nat.reduceEqDiff, Nat.reduceAdd, Nat.reduceLeDiff]; (first | done | rfl))
    | ((first | apply g_T | apply g_F | apply g_gT | apply g_gF); · intro q1_; (first | intro q2_ | have q2_ := q1_); simp only [go_sem, Nat.reduceEqDiff, Nat.reduceAdd, Nat.reduceLeDiff, q1_, q2_]; (first | done | rfl))
    | fail
    )
      refine s_call (as := [.sl (partsP l), .sc (.string ⟨#[44]⟩)]) (by simp only [go_sem, Nat.reduceEqDiff, Nat.reduceAdd, Nat.reduceLeDiff, hfz]) h23 ?_
      intro σ'
      (repeat' first
    | refine w_seq ?_ | refine w_rg ?_ | refine wo_nil ?_ | refine g_skU ?_ | refine g_skT ?_ | refine g_skF ?_
    | ((first | apply s_plain | apply s_void | apply s_guard | apply g_goT | apply g_goF); · simp only [go_sem, Nat.reduceEqDiff, Nat.reduceAdd, Nat.reduceLeDiff, q1, q2]; (first | done | rfl))
    | ((first | apply g_T | apply g_F | apply g_gT | apply g_gF); · intro q1_; (first | intro q2_ | have q2_ := q1_); simp only [go_sem, Nat.reduceEqDiff, Nat.reduceAdd, Nat.reduceLeDiff, q1, q2, q1_, q2_]; (first | done | rfl))
    | (apply w_condX; · simp only [go_sem, Nat.reduceEqDiff, Nat.reduceAdd, Nat.reduceLeDiff, q1, q2]; (first | done | rfl)); (first | refine wcd_T ?_ | refine wcd_F ?_)
    | refine w_skip ?_ | refine w_exit ?_ | refine w_ret ?_
    | fail
    )
      exact ⟨.inr rfl, by simp only [go_sem, Nat.reduceEqDiff, Nat.reduceAdd, Nat.reduceLeDiff, retOf, resOf, hr]; first | done | rfl⟩
    · exact ⟨by simp only [go_sem, Nat.reduceEqDiff, Nat.reduceAdd, Nat.reduceLeDiff]; exact hg, by simp only [go_sem, Nat.reduceEqDiff, Nat.reduceAdd, Nat.reduceLeDiff]; exact .em⟩
    · simp only [go_sem, Nat.reduceEqDiff, Nat.reduceAdd, Nat.reduceLeDiff]
    · simp only [go_sem, Nat.reduceEqDiff, Nat.reduceAdd, Nat.reduceLeDiff, hll]
end

section
variable {env : Nat → Option Def} {fr : Fr} {σ σ' : St} {K : Fr → St → Prop} {Q : X → Fr → St → Prop}
def bp (l : List UInt8) : List PV := l.map fun b => .sc (.int .u8 b.toNat)
theorem bp_app (a b : List UInt8) : bp (a ++ b) = bp a ++ bp b := by simp [bp]
theorem bp_len (a : List UInt8) : (bp a).length = a.length := by simp [bp]
theorem bp_bytes (s : ByteArray) : bytesPV s = bp s.data.toList := rfl
theorem bp_ok (l : List UInt8) : ((bp l).all fun y => okc y && (cellsOf y).length == 1) = true := by
  rw [List.all_eq_true]
  intro x hx
  simp only [bp, List.mem_map] at hx
  obtain ⟨m, _, rfl⟩ := hx
  rfl
theorem bp_back (l : List UInt8) : (bp l).mapM byteOf = some l := by
  induction l with
  | nil => rfl
  | cons b r ih =>
    show List.mapM byteOf (.sc (.int .u8 b.toNat) :: bp r) = _
    rw [mapM_cons', ih]
    simp [byteOf]
theorem join_snoc (sep x : List UInt8) : ∀ xs : List (List UInt8), Lib.join (xs ++ [x]) sep = if xs = [] then x else Lib.join xs sep ++ sep ++ x
  | [] => by simp [Lib.join_one]
  | y :: r => by
    rw [List.cons_append, Lib.join_cons, Lib.join_cons]
    simp [Lib.joinTail]
def preT (l : List Lab) (i : Nat) : List UInt8 := 123 :: Lib.join ((l.take i).map fun m => (markS m).data.toList) [44]
theorem mark_bytes (m : Lab) : (markS m).data.toList = m.1.data.toList ++ [61, 34] ++ esc m.2.data.toList ++ [34] := by
  simp [markS, escS, ByteArray.data_append]
theorem preT_succ {l : List Lab} {i : Nat} (hi : i < l.length) : preT l (i + 1) = preT l i ++ (if (i : Int) > 0 then [44] else []) ++ l[i].1.data.toList ++ [61, 34] ++ esc l[i].2.data.toList ++ [34] := by
  unfold preT
  rw [List.take_succ_eq_append_getElem hi, List.map_append, List.map_cons, List.map_nil, join_snoc, mark_bytes]
  cases i with
  | zero => simp [Lib.join]
  | succ i =>
    have hne : (l.take (i + 1)).map (fun m => (markS m).data.toList) ≠ [] := by
      intro h
      have h2 := congrArg List.length h
      simp only [List.length_map, List.length_take, List.length_nil] at h2
      omega
    rw [if_neg hne, if_pos (by omega)]
    simp
theorem preT_len {l : List Lab} (hsz : ∀ m ∈ l, m.1.size ≤ 64 ∧ m.2.size ≤ 64) (h8 : l.length ≤ 8) (i : Nat) : (preT l i).length ≤ 1700 := by
  have hj := join_len [44] ((l.take i).map fun m => (markS m).data.toList) (fun x hx => by
    obtain ⟨m, hm, rfl⟩ := List.mem_map.1 hx
    exact mark_size (hsz m (List.mem_of_mem_take hm)).1 (hsz m (List.mem_of_mem_take hm)).2) (by simp)
  rw [List.length_map, List.length_take] at hj
  simp only [preT, List.length_cons]
  omega
theorem esc_succ {v : List UInt8} {k : Nat} {u : UInt8} (hu : v[k]? = some u) : esc (v.take (k + 1)) = esc (v.take k) ++ (if u = 34 ∨ u = 92 then [92] else []) ++ [u] := by
  obtain ⟨hk, rfl⟩ := List.getElem?_eq_some_iff.1 hu
  rw [List.take_succ_eq_append_getElem hk]
  unfold esc
  rw [List.flatMap_append]
  simp only [List.flatMap_cons, List.flatMap_nil, List.append_nil, List.append_assoc]
  congr 1
  split <;> rfl
def OS : List Nat := [7, 19, 24, 27, 49, 56, 59]
structure Wr (l : List Lab) (i : Nat) (m : Lab) (out : List UInt8) (fr : Fr) (σ : St) : Prop where
  f8 : fr 8 = .sl (labs l)
  f9 : fr 9 = .sc (.int .i64 l.length)
  f10 : fr 10 = .sc (.int .i64 i)
  f4 : fr 4 = .sc (.int .i64 i)
  f5 : ∃ g, fr 5 = .bx 2000005 g 2 0 0 ∧ σ.m 2000005 g = some ⟨2, [.agg [.sc (.string m.1), .sc (.string m.2)]], true, true⟩ ∧ g < σ.c 2000005
  g3 : Gat σ OS 1 false (fr 3) (bp out)
theorem keep5 {os : List Nat} {g : Nat} {x : Obj} (hk : Keeps σ σ' os) (h5 : 2000005 ∉ os) (hm : σ.m 2000005 g = some x) (hg : g < σ.c 2000005) : σ'.m 2000005 g = some x ∧ g < σ'.c 2000005 :=
  ⟨by rw [hk.m 2000005 g h5 hg]; exact hm, Nat.lt_of_lt_of_le hg (hk.c 2000005)⟩
theorem new5 {d g : Nat} {x y : Obj} (hd : d ≠ 2000005) (hm : σ.m 2000005 g = some x) (hg : g < σ.c 2000005) : (σ.new d y).m 2000005 g = some x ∧ g < (σ.new d y).c 2000005 :=
  ⟨by simp only [new_m]; rw [if_neg (fun h => hd h.1.symm)]; exact hm, by simp only [new_c]; rw [if_neg (Ne.symm hd)]; exact hg⟩
theorem a211 (U : Has lu env) {l : List Lab} (hsz : ∀ m ∈ l, m.1.size ≤ 64 ∧ m.2.size ≤ 64) (h8 : l.length ≤ 8) : AV env 211 [.sl (labs l)] = some (.sc (.string (textS l))) := by
  have hll := labs_len l
  have hpl := preT_len hsz h8
  refine AV_wp (U (211, d211) (by simp [lu])) rfl ?_
  (repeat' first
    | refine w_seq ?_ | refine w_rg ?_ | refine wo_nil ?_ | refine g_skU ?_ | refine g_skT ?_ | refine g_skF ?_
    | ((first | apply s_plain | apply s_void | apply s_guard | apply g_goT | apply g_goF); · simp only [go_sem, Nat.reduceEqDiff, Nat.reduceAdd, Nat.reduceLeDiff, hll, fillE, List.replicate_succ, List.replicate_zero, List.set_cons_zero]; (first | done | rfl))
    | ((first | apply g_T | apply g_F | apply g_gT | apply g_gF); · intro q1_; (first | intro q2_ | have q2_ := q1_); simp only [go_sem, Nat.reduceEqDiff, Nat.reduceAdd, Nat.reduceLeDiff, hll, fillE, List.replicate_succ, List.replicate_zero, List.set_cons_zero, q1_, q2_]; (first | done | rfl))
    | fail
    )
  refine w_block (w_range l.length (by omega) (fun i fr σ => fr 8 = .sl (labs l) ∧ Gat σ OS 1 false (fr 3) (bp (preT l i))) (by decide) ?_ ?_ ?_ _ _ ?_ ?_ ?_)
  · rintro i fr σ v ⟨h0, h1⟩
    refine ⟨⟨?_, ?_⟩, ⟨?_, ?_⟩, ⟨?_, ?_⟩⟩ <;> simp only [go_sem, Nat.reduceEqDiff, Nat.reduceAdd, Nat.reduceLeDiff, h0, h1]
  · rintro i fr σ hi ⟨f8, hg⟩ hti htn
    have hy := labs_at (List.getElem?_eq_getElem hi)
    have e1 : (0 : Int) ≤ (i : Int) ∧ (i : Int) < (l.length : Int) := by omega
    have hz := hsz _ (List.getElem_mem hi)
    have hsuc := preT_succ hi
    generalize hm : l[i] = m at hy hz hsuc
    refine w_block ?_
    simp only [lab] at hy
    (repeat' first
    | refine w_seq ?_ | refine w_rg ?_ | refine wo_nil ?_ | refine g_skU ?_ | refine g_skT ?_ | refine g_skF ?_
    | ((first | apply s_plain | apply s_void | apply s_guard | apply g_goT | apply g_goF); · simp only [go_sem, Nat.reduceEqDiff, Nat.reduceAdd, Nat.reduceLeDiff, f8, hti, e1, hll, Int.toNat_natCast, hy, List.modify_zero_cons]; (first | done | rfl))
    | ((first | apply g_T | apply g_F | apply g_gT | apply g_gF); · intro q1_; (first | intro q2_ | have q2_ := q1_); simp only [go_sem, Nat.reduceEqDiff, Nat.reduceAdd, Nat.reduceLeDiff, f8, hti, e1, hll, Int.toNat_natCast, hy, List.modify_zero_cons, q1_, q2_]; (first | done | rfl))
    | fail
    )
    refine w_gen (J := fun fr τ => Wr l i m (preT l i) fr τ ∧ fr 16 = .sc (.bool (decide ((i : Int) > 0)))) ⟨⟨by simp only [go_sem, Nat.reduceEqDiff, Nat.reduceAdd, Nat.reduceLeDiff, f8], by simp only [go_sem, Nat.reduceEqDiff, Nat.reduceAdd, Nat.reduceLeDiff, htn], by simp only [go_sem, Nat.reduceEqDiff, Nat.reduceAdd, Nat.reduceLeDiff, hti], by simp only [go_sem, Nat.reduceEqDiff, Nat.reduceAdd, Nat.reduceLeDiff, hti], ⟨σ.c 2000005, by simp only [go_sem, Nat.reduceEqDiff, Nat.reduceAdd, Nat.reduceLeDiff], by simp only [go_sem, Nat.reduceEqDiff, Nat.reduceAdd, Nat.reduceLeDiff], by simp only [go_sem, Nat.reduceEqDiff, Nat.reduceAdd, Nat.reduceLeDiff]; first | done | omega⟩, by simp only [go_sem, Nat.reduceEqDiff, Nat.reduceAdd, Nat.reduceLeDiff]; exact (hg.new _).put (d := 2000005) (by decide) _⟩, by simp only [go_sem, Nat.reduceEqDiff, Nat.reduceAdd, Nat.reduceLeDiff]⟩ ?_
    clear hg f8 hti htn fr σ
    rintro fr σ ⟨hW, h16⟩
    refine Wp.mono (Q := fun x fr τ => x = .normal ∧ Wr l i m (preT l i ++ (if (i : Int) > 0 then [44] else [])) fr τ) ?_ ?_
    · by_cases hi0 : (i : Int) > 0
      · obtain ⟨w8, w9, w10, w4, ⟨g5, w5, wm, wc⟩, wg⟩ := hW
        refine w_condT (by simp only [go_sem, Nat.reduceEqDiff, Nat.reduceAdd, Nat.reduceLeDiff, h16, hi0, decide_true]) ?_
        (repeat' first
    | refine w_seq ?_ | refine w_rg ?_ | refine wo_nil ?_ | refine g_skU ?_ | refine g_skT ?_ | refine g_skF ?_
    | ((first | apply s_plain | apply s_void | apply s_guard | apply g_goT | apply g_goF); · simp only [go_sem, Nat.reduceEqDiff, Nat.reduceAdd, Nat.reduceLeDiff, fillE, List.replicate_succ, List.replicate_zero, List.set_cons_zero, List.set_cons_succ]; (first | done | rfl))
    | ((first | apply g_T | apply g_F | apply g_gT | apply g_gF); · intro q1_; (first | intro q2_ | have q2_ := q1_); simp only [go_sem, Nat.reduceEqDiff, Nat.reduceAdd, Nat.reduceLeDiff, fillE, List.replicate_succ, List.replicate_zero, List.set_cons_zero, List.set_cons_succ, q1_, q2_]; (first | done | rfl))
    | fail
    )
        refine s_gatL (os := OS) (ys := [.sc (.int .u8 44)]) (by simp only [go_sem, Nat.reduceEqDiff, Nat.reduceAdd, Nat.reduceLeDiff]; exact wg.new _) (by simp only [go_sem, Nat.reduceEqDiff, Nat.reduceAdd, Nat.reduceLeDiff, srcOf, elemsOf]) rfl (by rw [bp_len]; have := hpl i; simp only [List.length_cons, List.length_nil]; omega) ?_
        intro p τ hg2 kp
        have k6 := keep5 kp (by decide) (new5 (by decide) wm wc).1 (new5 (by decide) wm wc).2
        (repeat' first
    | refine w_seq ?_ | refine w_rg ?_ | refine wo_nil ?_ | refine g_skU ?_ | refine g_skT ?_ | refine g_skF ?_
    | ((first | apply s_plain | apply s_void | apply s_guard | apply g_goT | apply g_goF); · simp only [go_sem, Nat.reduceEqDiff, Nat.reduceAdd, Nat.reduceLeDiff]; (first | done | rfl))
    | ((first | apply g_T | apply g_F | apply g_gT | apply g_gF); · intro q1_; (first | intro q2_ | have q2_ := q1_); simp only [go_sem, Nat.reduceEqDiff, Nat.reduceAdd, Nat.reduceLeDiff, q1_, q2_]; (first | done | rfl))
    | fail
    )
        refine ⟨rfl, ⟨?_, ?_, ?_, ?_, ⟨g5, ?_, k6.1, k6.2⟩, ?_⟩⟩
        · simp only [go_sem, Nat.reduceEqDiff, Nat.reduceAdd, Nat.reduceLeDiff, w8]
        · simp only [go_sem, Nat.reduceEqDiff, Nat.reduceAdd, Nat.reduceLeDiff, w9]
        · simp only [go_sem, Nat.reduceEqDiff, Nat.reduceAdd, Nat.reduceLeDiff, w10]
        · simp only [go_sem, Nat.reduceEqDiff, Nat.reduceAdd, Nat.reduceLeDiff, w4]
        · simp only [go_sem, Nat.reduceEqDiff, Nat.reduceAdd, Nat.reduceLeDiff, w5]
        · simp only [go_sem, Nat.reduceEqDiff, Nat.reduceAdd, Nat.reduceLeDiff]
          rw [if_pos hi0, bp_app]
          exact hg2.one (by decide)
      · refine w_condF (by simp only [go_sem, Nat.reduceEqDiff, Nat.reduceAdd, Nat.reduceLeDiff, h16, hi0, decide_false]) (w_skip ⟨rfl, ?_⟩)
        rw [if_neg hi0, List.append_nil]
        exact hW
    · rintro x fr τ ⟨rfl, w8, w9, w10, w4, ⟨g5, w5, wm, wc⟩, wg⟩
      have hcl : (if (i : Int) > 0 then ([44] : List UInt8) else []).length ≤ 1 := by split <;> simp
      have hp0 := hpl i
      generalize (if (i : Int) > 0 then ([44] : List UInt8) else []) = cm at wg hcl hsuc
      have hb1 : (bytesPV m.1).length = m.1.size := bytes_len _
      (repeat' first
    | refine w_seq ?_ | refine w_rg ?_ | refine wo_nil ?_ | refine g_skU ?_ | refine g_skT ?_ | refine g_skF ?_
    | ((first | apply s_plain | apply s_void | apply s_guard | apply g_goT | apply g_goF); · simp only [go_sem, Nat.reduceEqDiff, Nat.reduceAdd, Nat.reduceLeDiff, w5, wm]; (first | done | rfl))
    | ((first | apply g_T | apply g_F | apply g_gT | apply g_gF); · intro q1_; (first | intro q2_ | have q2_ := q1_); simp only [go_sem, Nat.reduceEqDiff, Nat.reduceAdd, Nat.reduceLeDiff, w5, wm, q1_, q2_]; (first | done | rfl))
    | fail
    )
      refine s_gatL (os := OS) (ys := bytesPV m.1) (by simp only [go_sem, Nat.reduceEqDiff, Nat.reduceAdd, Nat.reduceLeDiff]; exact wg) (by simp only [go_sem, Nat.reduceEqDiff, Nat.reduceAdd, Nat.reduceLeDiff, srcOf, elemsOf]) (bp_ok _) (by rw [bp_len, hb1, List.length_append]; omega) ?_
      intro p1 τ1 q1 k1
      have m1 := keep5 k1 (by decide) wm wc
      rw [bp_bytes, ← bp_app] at q1
      (repeat' first
    | refine w_seq ?_ | refine w_rg ?_ | refine wo_nil ?_ | refine g_skU ?_ | refine g_skT ?_ | refine g_skF ?_
    | ((first | apply s_plain | apply s_void | apply s_guard | apply g_goT | apply g_goF); · simp only [go_sem, Nat.reduceEqDiff, Nat.reduceAdd, Nat.reduceLeDiff, fillE, List.replicate_succ, List.replicate_zero, List.set_cons_zero, List.set_cons_succ]; (first | done | rfl))
    | ((first | apply g_T | apply g_F | apply g_gT | apply g_gF); · intro q1_; (first | intro q2_ | have q2_ := q1_); simp only [go_sem, Nat.reduceEqDiff, Nat.reduceAdd, Nat.reduceLeDiff, fillE, List.replicate_succ, List.replicate_zero, List.set_cons_zero, List.set_cons_succ, q1_, q2_]; (first | done | rfl))
    | fail
    )
      refine s_gatL (os := [24]) (ys := [.sc (.int .u8 61), .sc (.int .u8 34)]) (by simp only [go_sem, Nat.reduceEqDiff, Nat.reduceAdd, Nat.reduceLeDiff]; exact q1.new _) (by simp only [go_sem, Nat.reduceEqDiff, Nat.reduceAdd, Nat.reduceLeDiff, srcOf, elemsOf]) rfl (by rw [bp_len]; simp only [List.length_append, List.length_cons, List.length_nil, Array.length_toList]; have : m.1.data.size = m.1.size := rfl; omega) ?_
      intro p2 τ2 q2 k2
      have m2 := keep5 k2 (by decide) (new5 (by decide) m1.1 m1.2).1 (new5 (by decide) m1.1 m1.2).2
      have q2' : Gat τ2 OS 1 false p2 (bp (preT l i ++ cm ++ m.1.data.toList ++ [61, 34])) := by
        rw [bp_app]; exact q2.one (by decide)
      have ho1 : (preT l i ++ cm ++ m.1.data.toList ++ [61, 34]).length ≤ 1800 := by
        simp only [List.length_append, List.length_cons, List.length_nil, Array.length_toList]
        have : m.1.data.size = m.1.size := rfl
        omega
      have hsuc' : preT l (i + 1) = (preT l i ++ cm ++ m.1.data.toList ++ [61, 34]) ++ esc m.2.data.toList ++ [34] := by rw [hsuc]
      generalize preT l i ++ cm ++ m.1.data.toList ++ [61, 34] = out1 at q2' ho1 hsuc'
      (repeat' first
    | refine w_seq ?_ | refine w_rg ?_ | refine wo_nil ?_ | refine g_skU ?_ | refine g_skT ?_ | refine g_skF ?_
    | ((first | apply s_plain | apply s_void | apply s_guard | apply g_goT | apply g_goF); · simp only [go_sem, Nat.reduceEqDiff, Nat.reduceAdd, Nat.reduceLeDiff]; (first | done | rfl))
    | ((first | apply g_T | apply g_F | apply g_gT | apply g_gF); · intro q1_; (first | intro q2_ | have q2_ := q1_); simp only [go_sem, Nat.reduceEqDiff, Nat.reduceAdd, Nat.reduceLeDiff, q1_, q2_]; (first | done | rfl))
    | fail
    )
      refine w_block (w_count m.2.size (fun k fr τ => Wr l i m (out1 ++ esc (m.2.data.toList.take k)) fr τ ∧ fr 6 = .sc (.int .i64 k)) ?_ _ _ ?_)
      · rintro k fr τ hk ⟨hV, v6⟩
        have hel : (esc (m.2.data.toList.take k)).length ≤ 128 := by
          have := esc_len (m.2.data.toList.take k)
          rw [List.length_take] at this
          have h0 : m.2.data.toList.length = m.2.size := by simp
          omega
        by_cases hlt : k < m.2.size
        · have hd : decide ((k : Int) < (m.2.size : Int)) = true := decide_eq_true (by omega)
          obtain ⟨u, hu, _⟩ := byte_get hlt
          have e1' : (0 : Int) ≤ (k : Int) := by omega
          have e2 := wrap_succ hlt (by omega)
          have hc : ((u.toNat : Int) == 34 || (u.toNat : Int) == 92) = decide (u = 34 ∨ u = 92) := by
            have x1 : ((u.toNat : Int) == 34) = decide (u = 34) := by
              rw [Bool.eq_iff_iff, beq_iff_eq, decide_eq_true_iff, ← UInt8.toNat_inj]
              exact ⟨fun h => by simpa using (by omega : u.toNat = 34), fun h => by rw [h]; rfl⟩
            have x2 : ((u.toNat : Int) == 92) = decide (u = 92) := by
              rw [Bool.eq_iff_iff, beq_iff_eq, decide_eq_true_iff, ← UInt8.toNat_inj]
              exact ⟨fun h => by simpa using (by omega : u.toNat = 92), fun h => by rw [h]; rfl⟩
            rw [x1, x2, Bool.decide_or]
          obtain ⟨v8, v9, v10, v4, ⟨g5, v5, vm, vc⟩, vg⟩ := hV
          (repeat' first
    | refine w_seq ?_ | refine w_rg ?_ | refine wo_nil ?_ | refine g_skU ?_ | refine g_skT ?_ | refine g_skF ?_
    | ((first | apply s_plain | apply s_void | apply s_guard | apply g_goT | apply g_goF); · simp only [go_sem, Nat.reduceEqDiff, Nat.reduceAdd, Nat.reduceLeDiff, v5, vm, v6, hd]; (first | done | rfl))
    | ((first | apply g_T | apply g_F | apply g_gT | apply g_gF); · intro q1_; (first | intro q2_ | have q2_ := q1_); simp only [go_sem, Nat.reduceEqDiff, Nat.reduceAdd, Nat.reduceLeDiff, v5, vm, v6, hd, q1_, q2_]; (first | done | rfl))
    | (apply w_condX; · simp only [go_sem, Nat.reduceEqDiff, Nat.reduceAdd, Nat.reduceLeDiff, v5, vm, v6, hd]; (first | done | rfl)); (first | refine wcd_T ?_ | refine wcd_F ?_)
    | refine w_skip ?_ | refine w_exit ?_ | refine w_ret ?_
    | fail
    )
          refine w_block ?_
          (repeat' first
    | refine w_seq ?_ | refine w_rg ?_ | refine wo_nil ?_ | refine g_skU ?_ | refine g_skT ?_ | refine g_skF ?_
    | ((first | apply s_plain | apply s_void | apply s_guard | apply g_goT | apply g_goF); · simp only [go_sem, Nat.reduceEqDiff, Nat.reduceAdd, Nat.reduceLeDiff, v5, vm, v6, e1', Int.toNat_natCast, hu]; (first | done | rfl))
    | ((first | apply g_T | apply g_F | apply g_gT | apply g_gF); · intro q1_; (first | intro q2_ | have q2_ := q1_); simp only [go_sem, Nat.reduceEqDiff, Nat.reduceAdd, Nat.reduceLeDiff, v5, vm, v6, e1', Int.toNat_natCast, hu, q1_, q2_]; (first | done | rfl))
    | fail
    )
          refine w_gen (J := fun fr τ => Wr l i m (out1 ++ esc (m.2.data.toList.take k)) fr τ ∧ fr 6 = .sc (.int .i64 k) ∧ fr 46 = .sc (.bool (decide (u = 34 ∨ u = 92)))) ⟨⟨by simp only [go_sem, Nat.reduceEqDiff, Nat.reduceAdd, Nat.reduceLeDiff, v8], by simp only [go_sem, Nat.reduceEqDiff, Nat.reduceAdd, Nat.reduceLeDiff, v9], by simp only [go_sem, Nat.reduceEqDiff, Nat.reduceAdd, Nat.reduceLeDiff, v10], by simp only [go_sem, Nat.reduceEqDiff, Nat.reduceAdd, Nat.reduceLeDiff, v4], ⟨g5, by simp only [go_sem, Nat.reduceEqDiff, Nat.reduceAdd, Nat.reduceLeDiff, v5], vm, vc⟩, by simp only [go_sem, Nat.reduceEqDiff, Nat.reduceAdd, Nat.reduceLeDiff]; exact vg⟩, by simp only [go_sem, Nat.reduceEqDiff, Nat.reduceAdd, Nat.reduceLeDiff, v6], by simp only [go_sem, Nat.reduceEqDiff, Nat.reduceAdd, Nat.reduceLeDiff, hc]⟩ ?_
          clear v8 v9 v10 v4 v5 vm vc vg v6 fr τ
          rintro fr τ ⟨hV, v6, v46⟩
          refine Wp.mono (Q := fun x fr τ => x = .normal ∧ Wr l i m (out1 ++ esc (m.2.data.toList.take k) ++ (if u = 34 ∨ u = 92 then [92] else [])) fr τ ∧ fr 6 = .sc (.int .i64 k)) ?_ ?_
          · by_cases hq : u = 34 ∨ u = 92
            · obtain ⟨v8, v9, v10, v4, ⟨g5, v5, vm, vc⟩, vg⟩ := hV
              refine w_condT (by simp only [go_sem, Nat.reduceEqDiff, Nat.reduceAdd, Nat.reduceLeDiff, v46, decide_eq_true hq]) ?_
              (repeat' first
    | refine w_seq ?_ | refine w_rg ?_ | refine wo_nil ?_ | refine g_skU ?_ | refine g_skT ?_ | refine g_skF ?_
    | ((first | apply s_plain | apply s_void | apply s_guard | apply g_goT | apply g_goF); · simp only [go_sem, Nat.reduceEqDiff, Nat.reduceAdd, Nat.reduceLeDiff, fillE, List.replicate_succ, List.replicate_zero, List.set_cons_zero, List.set_cons_succ]; (first | done | rfl))
    | ((first | apply g_T | apply g_F | apply g_gT | apply g_gF); · intro q1_; (first | intro q2_ | have q2_ := q1_); simp only [go_sem, Nat.reduceEqDiff, Nat.reduceAdd, Nat.reduceLeDiff, fillE, List.replicate_succ, List.replicate_zero, List.set_cons_zero, List.set_cons_succ, q1_, q2_]; (first | done | rfl))
    | fail
    )
              refine s_gatL (os := OS) (ys := [.sc (.int .u8 92)]) (by simp only [go_sem, Nat.reduceEqDiff, Nat.reduceAdd, Nat.reduceLeDiff]; exact vg.new _) (by simp only [go_sem, Nat.reduceEqDiff, Nat.reduceAdd, Nat.reduceLeDiff, srcOf, elemsOf]) rfl (by rw [bp_len]; simp only [List.length_append, List.length_cons, List.length_nil]; omega) ?_
              intro p τ' hg2 kp
              have k6 := keep5 kp (by decide) (new5 (by decide) vm vc).1 (new5 (by decide) vm vc).2
              (repeat' first
    | refine w_seq ?_ | refine w_rg ?_ | refine wo_nil ?_ | refine g_skU ?_ | refine g_skT ?_ | refine g_skF ?_
    | ((first | apply s_plain | apply s_void | apply s_guard | apply g_goT | apply g_goF); · simp only [go_sem, Nat.reduceEqDiff, Nat.reduceAdd, Nat.reduceLeDiff]; (first | done | rfl))
    | ((first | apply g_T | apply g_F | apply g_gT | apply g_gF); · intro q1_; (first | intro q2_ | have q2_ := q1_); simp only [go_sem, Nat.reduceEqDiff, Nat.reduceAdd, Nat.reduceLeDiff, q1_, q2_]; (first | done | rfl))
    | fail
    )
              refine ⟨rfl, ⟨?_, ?_, ?_, ?_, ⟨g5, ?_, k6.1, k6.2⟩, ?_⟩, ?_⟩
              · simp only [go_sem, Nat.reduceEqDiff, Nat.reduceAdd, Nat.reduceLeDiff, v8]
              · simp only [go_sem, Nat.reduceEqDiff, Nat.reduceAdd, Nat.reduceLeDiff, v9]
              · simp only [go_sem, Nat.reduceEqDiff, Nat.reduceAdd, Nat.reduceLeDiff, v10]
              · simp only [go_sem, Nat.reduceEqDiff, Nat.reduceAdd, Nat.reduceLeDiff, v4]
              · simp only [go_sem, Nat.reduceEqDiff, Nat.reduceAdd, Nat.reduceLeDiff, v5]
              · simp only [go_sem, Nat.reduceEqDiff, Nat.reduceAdd, Nat.reduceLeDiff]
                rw [if_pos hq, bp_app]
                exact hg2.one (by decide)
              · simp only [go_sem, Nat.reduceEqDiff, Nat.reduceAdd, Nat.reduceLeDiff, v6]
            · refine w_condF (by simp only [go_sem, Nat.reduceEqDiff, Nat.reduceAdd, Nat.reduceLeDiff, v46, decide_eq_false hq]) (w_skip ⟨rfl, ?_, v6⟩)
              rw [if_neg hq, List.append_nil]
              exact hV
          · rintro x fr τ ⟨rfl, ⟨v8, v9, v10, v4, ⟨g5, v5, vm, vc⟩, vg⟩, v6⟩
            have hcl2 : (if u = 34 ∨ u = 92 then ([92] : List UInt8) else []).length ≤ 1 := by split <;> simp
            (repeat' first
    | refine w_seq ?_ | refine w_rg ?_ | refine wo_nil ?_ | refine g_skU ?_ | refine g_skT ?_ | refine g_skF ?_
    | ((first | apply s_plain | apply s_void | apply s_guard | apply g_goT | apply g_goF); · simp only [go_sem, Nat.reduceEqDiff, Nat.reduceAdd, Nat.reduceLeDiff, v5, vm, v6, e1', Int.toNat_natCast, hu, fillE, List.replicate_succ, List.replicate_zero, List.set_cons_zero, List.set_cons_succ]; (first | done | rfl))
    | ((first | apply g_T | apply g_F | apply g_gT | apply g_gF); · intro q1_; (first | intro q2_ | have q2_ := q1_); simp only [go_sem, Nat.reduceEqDiff, Nat.reduceAdd, Nat.reduceLeDiff, v5, vm, v6, e1', Int.toNat_natCast, hu, fillE, List.replicate_succ, List.replicate_zero, List.set_cons_zero, List.set_cons_succ, q1_, q2_]; (first | done | rfl))
    | fail
    )
            refine s_gatL (os := OS) (ys := [.sc (.int .u8 u.toNat)]) (by simp only [go_sem, Nat.reduceEqDiff, Nat.reduceAdd, Nat.reduceLeDiff]; exact vg.new _) (by simp only [go_sem, Nat.reduceEqDiff, Nat.reduceAdd, Nat.reduceLeDiff, srcOf, elemsOf]) rfl (by rw [bp_len]; simp only [List.length_append, List.length_cons, List.length_nil]; omega) ?_
            intro p τ' hg2 kp
            have k6 := keep5 kp (by decide) (new5 (by decide) vm vc).1 (new5 (by decide) vm vc).2
            (repeat' first
    | refine w_seq ?_ | refine w_rg ?_ | refine wo_nil ?_ | refine g_skU ?_ | refine g_skT ?_ | refine g_skF ?_
    | ((first | apply s_plain | apply s_void | apply s_guard | apply g_goT | apply g_goF); · simp only [go_sem, Nat.reduceEqDiff, Nat.reduceAdd, Nat.reduceLeDiff, v6, e2]; (first | done | rfl))
    | ((first | apply g_T | apply g_F | apply g_gT | apply g_gF); · intro q1_; (first | intro q2_ | have q2_ := q1_); simp only [go_sem, Nat.reduceEqDiff, Nat.reduceAdd, Nat.reduceLeDiff, v6, e2, q1_, q2_]; (first | done | rfl))
    | (apply w_condX; · simp only [go_sem, Nat.reduceEqDiff, Nat.reduceAdd, Nat.reduceLeDiff, v6, e2]; (first | done | rfl)); (first | refine wcd_T ?_ | refine wcd_F ?_)
    | refine w_skip ?_ | refine w_exit ?_ | refine w_ret ?_
    | fail
    )
            refine ⟨hlt, ⟨?_, ?_, ?_, ?_, ⟨g5, ?_, k6.1, k6.2⟩, ?_⟩, ?_⟩
            · simp only [go_sem, Nat.reduceEqDiff, Nat.reduceAdd, Nat.reduceLeDiff, v8]
            · simp only [go_sem, Nat.reduceEqDiff, Nat.reduceAdd, Nat.reduceLeDiff, v9]
            · simp only [go_sem, Nat.reduceEqDiff, Nat.reduceAdd, Nat.reduceLeDiff, v10]
            · simp only [go_sem, Nat.reduceEqDiff, Nat.reduceAdd, Nat.reduceLeDiff, v4]
            · simp only [go_sem, Nat.reduceEqDiff, Nat.reduceAdd, Nat.reduceLeDiff, v5]
            · simp only [go_sem, Nat.reduceEqDiff, Nat.reduceAdd, Nat.reduceLeDiff]
              rw [esc_succ hu, ← List.append_assoc, ← List.append_assoc, bp_app]
              exact hg2.one (by decide)
            · simp only [go_sem, Nat.reduceEqDiff, Nat.reduceAdd, Nat.reduceLeDiff]
        · have hd : decide ((k : Int) < (m.2.size : Int)) = false := decide_eq_false (by omega)
          have h0 : m.2.data.toList.length = m.2.size := by simp
          have hkn : m.2.data.toList.take k = m.2.data.toList := List.take_of_length_le (by omega)
          rw [hkn] at hV hel
          obtain ⟨v8, v9, v10, v4, ⟨g5, v5, vm, vc⟩, vg⟩ := hV
          (repeat' first
    | refine w_seq ?_ | refine w_rg ?_ | refine wo_nil ?_ | refine g_skU ?_ | refine g_skT ?_ | refine g_skF ?_
    | ((first | apply s_plain | apply s_void | apply s_guard | apply g_goT | apply g_goF); · simp only [go_sem, Nat.reduceEqDiff, Nat.reduceAdd, Nat.reduceLeDiff, v5, vm, v6, hd, fillE, List.replicate_succ, List.replicate_zero, List.set_cons_zero, List.set_cons_succ]; (first | done | rfl))
    | ((first | apply g_T | apply g_F | apply g_gT | apply g_gF); · intro q1_; (first | intro q2_ | have q2_ := q1_); simp only [go_sem, Nat.reduceEqDiff, Nat.reduceAdd, Nat.reduceLeDiff, v5, vm, v6, hd, fillE, List.replicate_succ, List.replicate_zero, List.set_cons_zero, List.set_cons_succ, q1_, q2_]; (first | done | rfl))
    | (apply w_condX; · simp only [go_sem, Nat.reduceEqDiff, Nat.reduceAdd, Nat.reduceLeDiff, v5, vm, v6, hd, fillE, List.replicate_succ, List.replicate_zero, List.set_cons_zero, List.set_cons_succ]; (first | done | rfl)); (first | refine wcd_T ?_ | refine wcd_F ?_)
    | refine w_skip ?_ | refine w_exit ?_ | refine w_ret ?_
    | fail
    )
          try simp only [if_true]
          (repeat' first
    | refine w_seq ?_ | refine w_rg ?_ | refine wo_nil ?_ | refine g_skU ?_ | refine g_skT ?_ | refine g_skF ?_
    | ((first | apply s_plain | apply s_void | apply s_guard | apply g_goT | apply g_goF); · simp only [go_sem, Nat.reduceEqDiff, Nat.reduceAdd, Nat.reduceLeDiff, fillE, List.replicate_succ, List.replicate_zero, List.set_cons_zero, List.set_cons_succ]; (first | done | rfl))
    | ((first | apply g_T | apply g_F | apply g_gT | apply g_gF); · intro q1_; (first | intro q2_ | have q2_ := q1_); simp only [go_sem, Nat.reduceEqDiff, Nat.reduceAdd, Nat.reduceLeDiff, fillE, List.replicate_succ, List.replicate_zero, List.set_cons_zero, List.set_cons_succ, q1_, q2_]; (first | done | rfl))
    | fail
    )
          refine s_gatL (os := OS) (ys := [.sc (.int .u8 34)]) (by simp only [go_sem, Nat.reduceEqDiff, Nat.reduceAdd, Nat.reduceLeDiff]; exact vg.new _) (by simp only [go_sem, Nat.reduceEqDiff, Nat.reduceAdd, Nat.reduceLeDiff, srcOf, elemsOf]) rfl (by rw [bp_len]; simp only [List.length_append, List.length_cons, List.length_nil]; omega) ?_
          intro p τ' hg2 kp
          (repeat' first
    | refine w_seq ?_ | refine w_rg ?_ | refine wo_nil ?_ | refine g_skU ?_ | refine g_skT ?_ | refine g_skF ?_
    | ((first | apply s_plain | apply s_void | apply s_guard | apply g_goT | apply g_goF); · simp only [go_sem, Nat.reduceEqDiff, Nat.reduceAdd, Nat.reduceLeDiff]; (first | done | rfl))
    | ((first | apply g_T | apply g_F | apply g_gT | apply g_gF); · intro q1_; (first | intro q2_ | have q2_ := q1_); simp only [go_sem, Nat.reduceEqDiff, Nat.reduceAdd, Nat.reduceLeDiff, q1_, q2_]; (first | done | rfl))
    | fail
    )
          refine ⟨⟨?_, ?_⟩, ?_, ?_⟩
          · simp only [go_sem, Nat.reduceEqDiff, Nat.reduceAdd, Nat.reduceLeDiff, v8]
          · simp only [go_sem, Nat.reduceEqDiff, Nat.reduceAdd, Nat.reduceLeDiff]
            rw [hsuc', bp_app]
            exact hg2.one (by decide)
          · simp only [go_sem, Nat.reduceEqDiff, Nat.reduceAdd, Nat.reduceLeDiff, v10]
          · simp only [go_sem, Nat.reduceEqDiff, Nat.reduceAdd, Nat.reduceLeDiff, v9]
      · refine ⟨⟨?_, ?_, ?_, ?_, ⟨g5, ?_, m2.1, m2.2⟩, ?_⟩, ?_⟩
        · simp only [go_sem, Nat.reduceEqDiff, Nat.reduceAdd, Nat.reduceLeDiff, w8]
        · simp only [go_sem, Nat.reduceEqDiff, Nat.reduceAdd, Nat.reduceLeDiff, w9]
        · simp only [go_sem, Nat.reduceEqDiff, Nat.reduceAdd, Nat.reduceLeDiff, w10]
        · simp only [go_sem, Nat.reduceEqDiff, Nat.reduceAdd, Nat.reduceLeDiff, w4]
        · simp only [go_sem, Nat.reduceEqDiff, Nat.reduceAdd, Nat.reduceLeDiff, w5]
        · simp only [go_sem, Nat.reduceEqDiff, Nat.reduceAdd, Nat.reduceLeDiff]
          have : esc [] = [] := rfl
          rw [this, List.append_nil]
          exact q2'
        · simp only [go_sem, Nat.reduceEqDiff, Nat.reduceAdd, Nat.reduceLeDiff]; (first | done | rfl)
  · rintro fr σ ⟨f8, hg⟩
    try simp only [if_true]
    have hp0 := hpl l.length
    (repeat' first
    | refine w_seq ?_ | refine w_rg ?_ | refine wo_nil ?_ | refine g_skU ?_ | refine g_skT ?_ | refine g_skF ?_
    | ((first | apply s_plain | apply s_void | apply s_guard | apply g_goT | apply g_goF); · simp only [go_sem, Nat.reduceEqDiff, Nat.reduceAdd, Nat.reduceLeDiff, fillE, List.replicate_succ, List.replicate_zero, List.set_cons_zero, List.set_cons_succ]; (first | done | rfl))
    | ((first | apply g_T | apply g_F | apply g_gT | apply g_gF); · intro q1_; (first | intro q2_ | have q2_ := q1_); simp only [go_sem, Nat.reduceEqDiff, Nat.reduceAdd, Nat.reduceLeDiff, fillE, List.replicate_succ, List.replicate_zero, List.set_cons_zero, List.set_cons_succ, q1_, q2_]; (first | done | rfl))
    | fail
    )
    refine s_gatL (os := OS) (ys := [.sc (.int .u8 125)]) (by simp only [go_sem, Nat.reduceEqDiff, Nat.reduceAdd, Nat.reduceLeDiff]; exact hg.new _) (by simp only [go_sem, Nat.reduceEqDiff, Nat.reduceAdd, Nat.reduceLeDiff, srcOf, elemsOf]) rfl (by rw [bp_len]; simp only [List.length_cons, List.length_nil]; omega) ?_
    intro p τ hg2 kp
    have hE := gat_elems hg2
    have hE2 : elemsOf τ p = some (bp (preT l l.length ++ [125])) := by rw [hE, bp_app]; rfl
    have hB := bp_back (preT l l.length ++ [125])
    have hT : (⟨(preT l l.length ++ [125]).toArray⟩ : ByteArray) = textS l := by
      refine Go.WideShapes.bytes_inj ?_
      simp [textS, bodyS, preT, ByteArray.data_append]
    (repeat' first
    | refine w_seq ?_ | refine w_rg ?_ | refine wo_nil ?_ | refine g_skU ?_ | refine g_skT ?_ | refine g_skF ?_
    | ((first | apply s_plain | apply s_void | apply s_guard | apply g_goT | apply g_goF); · simp only [go_sem, Nat.reduceEqDiff, Nat.reduceAdd, Nat.reduceLeDiff, hE2, hB, hT]; (first | done | rfl))
    | ((first | apply g_T | apply g_F | apply g_gT | apply g_gF); · intro q1_; (first | intro q2_ | have q2_ := q1_); simp only [go_sem, Nat.reduceEqDiff, Nat.reduceAdd, Nat.reduceLeDiff, hE2, hB, hT, q1_, q2_]; (first | done | rfl))
    | (apply w_condX; · simp only [go_sem, Nat.reduceEqDiff, Nat.reduceAdd, Nat.reduceLeDiff, hE2, hB, hT]; (first | done | rfl)); (first | refine wcd_T ?_ | refine wcd_F ?_)
    | refine w_skip ?_ | refine w_exit ?_ | refine w_ret ?_
    | fail
    )
    exact ⟨.inr rfl, by simp only [go_sem, Nat.reduceEqDiff, Nat.reduceAdd, Nat.reduceLeDiff, retOf, resOf]; first | done | rfl⟩
  · refine ⟨by simp only [go_sem, Nat.reduceEqDiff, Nat.reduceAdd, Nat.reduceLeDiff], ?_⟩
    simp only [go_sem, Nat.reduceEqDiff, Nat.reduceAdd, Nat.reduceLeDiff]
    exact .inr ⟨7, 0, true, by decide, rfl, by simp only [go_sem, Nat.reduceEqDiff, Nat.reduceAdd, Nat.reduceLeDiff]; first | done | rfl, by simp only [go_sem, Nat.reduceEqDiff, Nat.reduceAdd, Nat.reduceLeDiff]; first | done | omega, by simp [bp, preT], fun h => by cases h⟩
  · simp only [go_sem, Nat.reduceEqDiff, Nat.reduceAdd, Nat.reduceLeDiff]
  · simp only [go_sem, Nat.reduceEqDiff, Nat.reduceAdd, Nat.reduceLeDiff, hll]
end

section
def mkLab (n v : List UInt8) : Lab := (⟨n.toArray⟩, ⟨v.toArray⟩)
def pl : Nat → List UInt8 → List Lab → Option (List Lab)
  | 0, _, out => some out
  | k + 1, rest, out => if rest = [125] then some out else if out ≠ [] ∧ [44].isPrefixOf rest = false then none else
      (oneL (if out = [] then rest else cutPre rest [44])).bind fun q => pl k q.2.2 (out ++ [mkLab q.1 q.2.1])
def parseS (s : List UInt8) : List Lab × Int := if [123].isPrefixOf s then (match pl 9 (s.drop 1) [] with
  | some out => if rightL out = true ∧ (textS out).data.toList = s then (out, 0) else ([], 6)
  | none => ([], 6)) else ([], 6)
theorem scan_esc' : ∀ (v : List UInt8) (acc t : List UInt8), scan (esc v ++ 34 :: t) acc = some (acc ++ v, t)
  | [], acc, t => by
    simp only [esc, List.flatMap_nil, List.nil_append, List.append_nil]
    cases t <;> simp [scan]
  | b :: v, acc, t => by
    have ih := scan_esc' v (acc ++ [b]) t
    have e : esc (b :: v) = (if b = 34 ∨ b = 92 then [92, b] else [b]) ++ esc v := by simp [esc]
    rw [e]
    split
    · rename_i h
      show scan (92 :: b :: (esc v ++ 34 :: t)) acc = _
      rw [scan, if_neg (by decide), if_pos rfl, ih]
      simp
    · rename_i h
      have h1 : b ≠ 34 := fun e => h (.inl e)
      have h2 : b ≠ 92 := fun e => h (.inr e)
      have hne : ∃ c r, esc v ++ 34 :: t = c :: r := by
        cases hq : esc v ++ 34 :: t with
        | nil => simp at hq
        | cons c r => exact ⟨c, r, rfl⟩
      obtain ⟨c, r, hcr⟩ := hne
      show scan (b :: (esc v ++ 34 :: t)) acc = _
      rw [hcr] at ih ⊢
      rw [scan, if_neg h1, if_neg h2, ih]
      simp
def NoEq (n : List UInt8) : Prop := ∀ b ∈ n, b ≠ 61
theorem occ_at (n t : List UInt8) : Lib.occAt (n ++ 61 :: 34 :: t) [61, 34] n.length = true := by
  simp [Lib.occAt, List.isPrefixOf]
theorem occ_not {n t : List UInt8} (h : NoEq n) {j : Nat} (hj : j < n.length) : Lib.occAt (n ++ 61 :: 34 :: t) [61, 34] j = false := by
  unfold Lib.occAt
  have hl : j < (n ++ 61 :: 34 :: t).length := by simp; omega
  rw [drop_at hl, List.getElem_append_left hj]
  have := h n[j] (List.getElem_mem hj)
  simp [List.isPrefixOf, Ne.symm this]
theorem cut_eq {n t : List UInt8} (h : NoEq n) : Lib.cut (n ++ 61 :: 34 :: t) [61, 34] = (n, t, true) := by
  have hi : Lib.index (n ++ 61 :: 34 :: t) [61, 34] = n.length := Lib.index_first (by simp) (occ_at n t) (fun j hj => occ_not h hj)
  unfold Lib.cut
  rw [hi, if_pos (by omega)]
  simp only [Int.toNat_natCast, Prod.mk.injEq, and_true]
  refine ⟨by simp, ?_⟩
  rw [List.drop_append, List.drop_eq_nil_of_le (by simp)]
  simp
theorem oneL_mark {n v t : List UInt8} (h : NoEq n) : oneL (n ++ 61 :: 34 :: (esc v ++ 34 :: t)) = some (n, v, t) := by
  unfold oneL
  rw [cut_eq h]
  simp only [if_true]
  rw [scan_esc']
  rfl
def tailB : List Lab → List UInt8
  | [] => [125]
  | m :: r => 44 :: (m.1.data.toList ++ 61 :: 34 :: (esc m.2.data.toList ++ 34 :: tailB r))
theorem mk_eta (m : Lab) : mkLab m.1.data.toList m.2.data.toList = m := by
  unfold mkLab
  rw [ba_eta, ba_eta]
theorem pl_tail : ∀ (k : Nat) (l out : List Lab), (∀ m ∈ l, NoEq m.1.data.toList) → out ≠ [] → l.length ≤ k → pl k (tailB l) out = some (out ++ l)
  | 0, l, out, _, _, hk => by
    have : l = [] := List.eq_nil_of_length_eq_zero (by omega)
    subst this; simp [pl]
  | k + 1, [], out, _, _, _ => by simp [pl, tailB]
  | k + 1, m :: r, out, h, ho, hk => by
    have hm := h m (by simp)
    rw [pl, if_neg (by simp [tailB]), if_neg (by simp [tailB, List.isPrefixOf]), if_neg ho]
    have hc : cutPre (tailB (m :: r)) [44] = m.1.data.toList ++ 61 :: 34 :: (esc m.2.data.toList ++ 34 :: tailB r) := by
      simp [cutPre, tailB, List.isPrefixOf]
    rw [hc, oneL_mark hm, Option.bind_some, mk_eta, pl_tail k r (out ++ [m]) (fun x hx => h x (by simp [hx])) (by simp) (by simp at hk; omega)]
    simp
theorem join_cc (a b sep : List UInt8) (c : List (List UInt8)) : Lib.join (a :: b :: c) sep = a ++ sep ++ Lib.join (b :: c) sep := by
  simp [Lib.join, List.intercalate]
theorem text_bytes (l : List Lab) : (textS l).data.toList = 123 :: (match tailB l with
    | 44 :: r => r
    | r => r) := by
  have key : ∀ l : List Lab, Lib.join (l.map fun m => (markS m).data.toList) [44] ++ [125] = match tailB l with
    | 44 :: r => r
    | r => r := by
    intro l
    induction l with
    | nil => rfl
    | cons m r ih =>
      cases r with
      | nil => simp [Lib.join, tailB, mark_bytes]
      | cons m2 r2 =>
        simp only [List.map_cons] at ih ⊢
        rw [join_cc, List.append_assoc, ih]
        simp [tailB, mark_bytes]
  rw [← key l]
  unfold textS bodyS
  simp [ByteArray.data_append]
theorem name_noEq {s : ByteArray} (h : nameB s = true) : NoEq s.data.toList := by
  intro b hb e
  subst e
  obtain ⟨i, hi⟩ := List.getElem?_of_mem hb
  have hlt : i < s.size := by simpa using (List.getElem?_eq_some_iff.1 hi).1
  unfold nameB at h
  simp only [Bool.and_eq_true, Bool.not_eq_true', decide_eq_false_iff_not] at h
  have hbad := found_no h.1 i hlt
  have hat : byteAt s i = 61 := by unfold byteAt; rw [hi]; rfl
  unfold badN at hbad
  rw [hat, show letterB 61 = false from by decide, show (decide ((61 : Int) > 57)) = true from by decide] at hbad
  simp at hbad
theorem right_noEq {l : List Lab} (h : rightL l = true) : ∀ m ∈ l, NoEq m.1.data.toList := by
  obtain ⟨hmay, _, _⟩ := right_iff.1 h
  intro m hm
  have := hmay m hm
  unfold mayB at this
  simp only [Bool.and_eq_true] at this
  exact name_noEq this.1
theorem parse_text {l : List Lab} (h : rightL l = true) : parseS (textS l).data.toList = (l, 0) := by
  have hne := right_noEq h
  obtain ⟨_, _, h8⟩ := right_iff.1 h
  have hp : pl 9 ((textS l).data.toList.drop 1) [] = some l := by
    rw [text_bytes]
    cases l with
    | nil => simp [tailB, pl]
    | cons m r =>
      simp only [tailB, List.drop_succ_cons, List.drop_zero]
      have hm := hne m (by simp)
      have hx : m.1.data.toList ++ 61 :: 34 :: (esc m.2.data.toList ++ 34 :: tailB r) ≠ [125] := by
        intro e
        have := congrArg List.length e
        simp at this
        omega
      rw [pl, if_neg hx, if_neg (by simp), if_pos rfl, oneL_mark hm, Option.bind_some, mk_eta]
      simp only [List.nil_append]
      rw [pl_tail 8 r [m] (fun x hx => hne x (by simp [hx])) (by simp) (by simp at h8; omega)]
      rfl
  unfold parseS
  rw [if_pos (by rw [text_bytes]; rfl), hp]
  simp only
  rw [if_pos ⟨h, trivial⟩]
theorem parse_ok {s : List UInt8} {l : List Lab} (h : parseS s = (l, 0)) : rightL l = true ∧ (textS l).data.toList = s := by
  unfold parseS at h
  split at h
  · split at h
    · split at h
      · rename_i hq
        simp only [Prod.mk.injEq, and_true] at h
        subst h
        exact hq
      · simp at h
    · simp at h
  · simp at h
theorem parse_bad {s : List UInt8} (h : (parseS s).2 ≠ 0) : parseS s = ([], 6) := by
  unfold parseS at h ⊢
  split
  · rename_i h1
    rw [if_pos h1] at h
    split
    · rename_i out ho
      rw [ho] at h
      simp only at h
      split
      · rename_i hq
        rw [if_pos hq] at h
        simp at h
      · rfl
    · rfl
  · rfl
end

def d37 : Def := (.code 2 [.tmp 4] (.seq (.rg false [⟨.some 4, .none, .mv (.c (.int .i64 0))⟩]) (.seq (.seq (.rg false [⟨.some 6, .none, .mv (.t 0)⟩, ⟨.some 7, .none, .lenL (.t 6)⟩, ⟨.some 8, .none, .mv (.c (.int .i64 0))⟩]) (.block 0 (.loop (.seq (.rg false [⟨.some 9, .none, .bin .lss (.t 8) (.t 7)⟩]) (.seq (.cond (.t 9) .skip (.exit 0)) (.seq (.block 1 (.seq (.rg false [⟨.some 10, .none, .mv (.t 8)⟩, ⟨.some 5, .none, .mv (.t 10)⟩]) (.seq (.rg false [⟨.some 11, .none, .mv (.t 1)⟩, ⟨.some 12, .none, .mv (.t 0)⟩, ⟨.some 13, .none, .mv (.t 5)⟩, ⟨.some 14, .none, .ia 1 (.t 12) (.t 13)⟩, ⟨.some 15, .none, .ld .none (.t 14)⟩, ⟨.some 16, .none, .bin .eql (.t 11) (.t 15)⟩]) (.cond (.t 16) (.seq (.rg false [⟨.some 17, .none, .mv (.t 5)⟩, ⟨.some 4, .none, .mv (.t 17)⟩]) .ret) .skip)))) (.rg false [⟨.some 18, .none, .bin .add (.t 8) (.c (.int .i64 1))⟩, ⟨.some 8, .none, .mv (.t 18)⟩]))))))) (.seq (.rg false [⟨.some 4, .none, .mv (.c (.int .i64 (-1)))⟩]) .ret))))
def d50 : Def := (.code 2 [.tmp 4] (.seq (.rg false [⟨.some 4, .none, .mv (.c (.bool false))⟩]) (.seq (.rg false [⟨.some 5, .none, .mv (.t 0)⟩, ⟨.some 6, .none, .mv (.t 1)⟩, ⟨.some 7, .none, .call 37 .pure [.t 5, .t 6]⟩, ⟨.some 8, .none, .bin .geq (.t 7) (.c (.int .i64 0))⟩, ⟨.some 4, .none, .mv (.t 8)⟩]) .ret)))
def d247 : Def := (.code 2 [.tmp 3] (.seq (.rg false [⟨.some 2, .none, .box (.t 0)⟩, ⟨.some 3, .none, .mv (.c (.bool false))⟩]) (.seq (.rg false [⟨.some 4, .none, .ld .none (.t 1)⟩, ⟨.some 5, .none, .fa 0 (.t 2)⟩, ⟨.some 6, .none, .ld .none (.t 5)⟩, ⟨.some 7, .none, .call 50 .pure [.t 4, .t 6]⟩, ⟨.some 8, .none, .un .not (.t 7)⟩, ⟨.some 3, .none, .mv (.t 8)⟩]) .ret)))
def d243 : Def := (.code 1 [.tmp 2] (.seq (.rg false [⟨.some 2, .none, .mv (.c (.slice .none 0 0))⟩]) (.seq (.rg false [⟨.some 3, .none, .mv (.c (.slice .none 0 0))⟩]) (.seq (.seq (.rg false [⟨.some 6, .none, .mv (.t 0)⟩, ⟨.some 7, .none, .mv (.t 0)⟩, ⟨.some 8, .none, .lenL (.t 7)⟩, ⟨.some 9, .none, .mnmx false [.t 8, .c (.int .i64 10)]⟩, ⟨.some 10, .none, .slcL 1 (.t 6) .none (.some (.t 9))⟩, ⟨.some 11, .none, .lenL (.t 10)⟩, ⟨.some 12, .none, .mv (.c (.int .i64 0))⟩]) (.block 0 (.loop (.seq (.rg false [⟨.some 13, .none, .bin .lss (.t 12) (.t 11)⟩]) (.seq (.cond (.t 13) .skip (.exit 0)) (.seq (.block 1 (.seq (.rg false [⟨.some 14, .none, .ia 1 (.t 10) (.t 12)⟩, ⟨.some 15, .none, .ld .none (.t 14)⟩, ⟨.some 5, .none, .mv (.t 15)⟩]) (.rg false [⟨.some 16, .none, .mv (.t 3)⟩, ⟨.some 17, .none, .mv (.t 5)⟩, ⟨.some 18, .none, .mv (.t 5)⟩, ⟨.some 19, .none, .lenS (.t 18)⟩, ⟨.some 20, .none, .mnmx false [.t 19, .c (.int .i64 70)]⟩, ⟨.some 21, .none, .slcS (.t 17) .none (.some (.t 20))⟩, ⟨.some 22, .none, .bsl 1 (.string ⟨#[]⟩) 1 [(0, .t 21)]⟩, ⟨.some 23, .none, .app 1 16 false (.t 16) (.t 22)⟩, ⟨.some 3, .none, .mv (.t 23)⟩]))) (.rg false [⟨.some 24, .none, .bin .add (.t 12) (.c (.int .i64 1))⟩, ⟨.some 12, .none, .mv (.t 24)⟩]))))))) (.seq (.rg false [⟨.some 25, .none, .mv (.t 3)⟩, ⟨.some 2, .none, .mv (.t 25)⟩]) .ret)))))
def d245 : Def := (.code 2 [.tmp 4] (.seq (.rg false [⟨.some 4, .none, .mv (.c (.slice .none 0 0))⟩]) (.seq (.rg false [⟨.some 11, .none, .mv (.c (.slice .none 0 0))⟩, ⟨.some 5, .none, .mv (.t 11)⟩]) (.seq (.seq (.rg false [⟨.some 12, .none, .mv (.t 0)⟩, ⟨.some 13, .none, .lenL (.t 12)⟩, ⟨.some 14, .none, .mv (.c (.int .i64 0))⟩]) (.block 0 (.loop (.seq (.rg false [⟨.some 15, .none, .bin .lss (.t 14) (.t 13)⟩]) (.seq (.cond (.t 15) .skip (.exit 0)) (.seq (.block 1 (.seq (.rg false [⟨.some 16, .none, .ia 2 (.t 12) (.t 14)⟩, ⟨.some 17, .none, .ld (.some 2) (.t 16)⟩, ⟨.some 7, .none, .box (.c (.agg #[.string ⟨#[]⟩, .string ⟨#[]⟩]))⟩, ⟨.none, .none, .st 2 (.t 7) (.t 17)⟩]) (.seq (.rg false [⟨.some 8, .none, .mv (.c (.bool false))⟩]) (.seq (.seq (.rg false [⟨.some 18, .none, .mv (.t 1)⟩, ⟨.some 19, .none, .lenL (.t 18)⟩, ⟨.some 20, .none, .mv (.c (.int .i64 0))⟩]) (.block 2 (.loop (.seq (.rg false [⟨.some 21, .none, .bin .lss (.t 20) (.t 19)⟩]) (.seq (.cond (.t 21) .skip (.exit 2)) (.seq (.block 3 (.seq (.rg false [⟨.some 22, .none, .ia 1 (.t 18) (.t 20)⟩, ⟨.some 23, .none, .ld .none (.t 22)⟩, ⟨.some 10, .none, .mv (.t 23)⟩]) (.rg false [⟨.some 24, .none, .mv (.t 8)⟩, ⟨.some 25, .none, .mv (.t 24)⟩, ⟨.some 26, .some (25, false), .mv (.t 10)⟩, ⟨.some 27, .some (25, false), .fa 0 (.t 7)⟩, ⟨.some 28, .some (25, false), .ld .none (.t 27)⟩, ⟨.some 29, .some (25, false), .bin .eql (.t 26) (.t 28)⟩, ⟨.some 30, .none, .pick (.t 25) (.c (.bool true)) (.t 29)⟩, ⟨.some 8, .none, .mv (.t 30)⟩]))) (.rg false [⟨.some 31, .none, .bin .add (.t 20) (.c (.int .i64 1))⟩, ⟨.some 20, .none, .mv (.t 31)⟩]))))))) (.seq (.rg false [⟨.some 32, .none, .mv (.t 8)⟩]) (.cond (.t 32) (.rg false [⟨.some 33, .none, .mv (.t 5)⟩, ⟨.some 34, .none, .ld (.some 2) (.t 7)⟩, ⟨.some 35, .none, .bsl 2 (.agg #[.string ⟨#[]⟩, .string ⟨#[]⟩]) 1 [(0, .t 34)]⟩, ⟨.some 36, .none, .app 2 32 false (.t 33) (.t 35)⟩, ⟨.some 5, .none, .mv (.t 36)⟩]) .skip)))))) (.rg false [⟨.some 37, .none, .bin .add (.t 14) (.c (.int .i64 1))⟩, ⟨.some 14, .none, .mv (.t 37)⟩]))))))) (.seq (.rg false [⟨.some 38, .none, .mv (.t 5)⟩, ⟨.some 4, .none, .mv (.t 38)⟩]) .ret)))))
def lx : List (Nat × Def) := [(37, d37), (50, d50), (247, d247), (243, d243), (245, d245)]
section
variable {env : Nat → Option Def} {fr : Fr} {σ σ' : St} {K : Fr → St → Prop} {Q : X → Fr → St → Prop}
def strs (l : List ByteArray) : List PV := l.map fun s => .sc (.string s)
theorem strs_len (l : List ByteArray) : (strs l).length = l.length := by simp [strs]
theorem strs_at {l : List ByteArray} {i : Nat} {s : ByteArray} (h : l[i]? = some s) : (strs l)[i]? = some (.sc (.string s)) := by simp [strs, h]
theorem strs_fz (σ : St) (l : List ByteArray) : (strs l).mapM (fz σ 11) = some (strs l) := by
  induction l with
  | nil => rfl
  | cons m r ih =>
    show List.mapM (fz σ 11) (.sc (.string m) :: strs r) = _
    rw [mapM_cons', ih]
    rfl
def nthS (l : List ByteArray) (i : Nat) : ByteArray := l[i]?.getD ⟨#[]⟩
theorem nthS_eq {l : List ByteArray} {i : Nat} (hi : i < l.length) : nthS l i = l[i] := by unfold nthS; rw [List.getElem?_eq_getElem hi]; rfl
def isS (l : List ByteArray) (s : ByteArray) (i : Nat) : Bool := s.toList == (nthS l i).toList
theorem a37 (X : Has lx env) {l : List ByteArray} (hn : l.length ≤ 9223372036854775807) (s : ByteArray) : AV env 37 [.sl (strs l), .sc (.string s)] = some (.sc (.int .i64 (found (isS l s) l.length))) := by
  refine AV_wp (X (37, d37) (by simp [lx])) rfl ?_
  have hll := strs_len l
  (repeat' first
    | refine w_seq ?_ | refine w_rg ?_ | refine wo_nil ?_ | refine g_skU ?_ | refine g_skT ?_ | refine g_skF ?_
    | ((first | apply s_plain | apply s_void | apply s_guard | apply g_goT | apply g_goF); · simp only [go_sem, Nat.reduceEqDiff, Nat.reduceAdd, Nat.reduceLeDiff, hll]; (first | done | rfl))
    | ((first | apply g_T | apply g_F | apply g_gT | apply g_gF); · intro q1_; (first | intro q2_ | have q2_ := q1_); simp only [go_sem, Nat.reduceEqDiff, Nat.reduceAdd, Nat.reduceLeDiff, hll, q1_, q2_]; (first | done | rfl))
    | fail
    )
  refine w_block (w_range l.length hn (fun i fr σ => fr 0 = .sl (strs l) ∧ fr 1 = .sc (.string s) ∧ ∀ j, j < i → isS l s j = false) (by decide) ?_ ?_ ?_ _ _ ?_ ?_ ?_)
  · rintro i fr σ v ⟨h0, h1, h2⟩
    refine ⟨⟨?_, ?_, h2⟩, ⟨?_, ?_, h2⟩, ⟨?_, ?_, h2⟩⟩ <;> simp only [go_sem, Nat.reduceEqDiff, Nat.reduceAdd, Nat.reduceLeDiff, h0, h1]
  · rintro i fr σ hi ⟨h0, h1, h3⟩ hti htn
    have hy := strs_at (List.getElem?_eq_getElem hi)
    have hni := nthS_eq hi
    have e1 : (0 : Int) ≤ (i : Int) ∧ (i : Int) < (l.length : Int) := by omega
    refine w_block ?_
    (repeat' first
    | refine w_seq ?_ | refine w_rg ?_ | refine wo_nil ?_ | refine g_skU ?_ | refine g_skT ?_ | refine g_skF ?_
    | ((first | apply s_plain | apply s_void | apply s_guard | apply g_goT | apply g_goF); · simp only [go_sem, Nat.reduceEqDiff, Nat.reduceAdd, Nat.reduceLeDiff, h0, h1, hti, e1, hll, Int.toNat_natCast, hy]; (first | done | rfl))
    | ((first | apply g_T | apply g_F | apply g_gT | apply g_gF); · intro q1_; (first | intro q2_ | have q2_ := q1_); simp only [go_sem, Nat.reduceEqDiff, Nat.reduceAdd, Nat.reduceLeDiff, h0, h1, hti, e1, hll, Int.toNat_natCast, hy, q1_, q2_]; (first | done | rfl))
    | fail
    )
    have hbad : isS l s i = (s.toList == l[i].toList) := by unfold isS; rw [hni]
    rw [← hbad]
    cases hpi : isS l s i with
    | true =>
      (repeat' first
    | refine w_seq ?_ | refine w_rg ?_ | refine wo_nil ?_ | refine g_skU ?_ | refine g_skT ?_ | refine g_skF ?_
    | ((first | apply s_plain | apply s_void | apply s_guard | apply g_goT | apply g_goF); · simp only [go_sem, Nat.reduceEqDiff, Nat.reduceAdd, Nat.reduceLeDiff]; (first | done | rfl))
    | ((first | apply g_T | apply g_F | apply g_gT | apply g_gF); · intro q1_; (first | intro q2_ | have q2_ := q1_); simp only [go_sem, Nat.reduceEqDiff, Nat.reduceAdd, Nat.reduceLeDiff, q1_, q2_]; (first | done | rfl))
    | (apply w_condX; · simp only [go_sem, Nat.reduceEqDiff, Nat.reduceAdd, Nat.reduceLeDiff]; (first | done | rfl)); (first | refine wcd_T ?_ | refine wcd_F ?_)
    | refine w_skip ?_ | refine w_exit ?_ | refine w_ret ?_
    | fail
    )
      exact ⟨.inr rfl, by simp only [go_sem, Nat.reduceEqDiff, Nat.reduceAdd, Nat.reduceLeDiff, retOf, resOf, found_hit hi h3 hpi]⟩
    | false =>
      (repeat' first
    | refine w_seq ?_ | refine w_rg ?_ | refine wo_nil ?_ | refine g_skU ?_ | refine g_skT ?_ | refine g_skF ?_
    | ((first | apply s_plain | apply s_void | apply s_guard | apply g_goT | apply g_goF); · simp only [go_sem, Nat.reduceEqDiff, Nat.reduceAdd, Nat.reduceLeDiff]; (first | done | rfl))
    | ((first | apply g_T | apply g_F | apply g_gT | apply g_gF); · intro q1_; (first | intro q2_ | have q2_ := q1_); simp only [go_sem, Nat.reduceEqDiff, Nat.reduceAdd, Nat.reduceLeDiff, q1_, q2_]; (first | done | rfl))
    | (apply w_condX; · simp only [go_sem, Nat.reduceEqDiff, Nat.reduceAdd, Nat.reduceLeDiff]; (first | done | rfl)); (first | refine wcd_T ?_ | refine wcd_F ?_)
    | refine w_skip ?_ | refine w_exit ?_ | refine w_ret ?_
    | fail
    )
      refine ⟨⟨?_, ?_, fun j hj => ?_⟩, ?_, ?_⟩
      · simp only [go_sem, Nat.reduceEqDiff, Nat.reduceAdd, Nat.reduceLeDiff, h0]
      · simp only [go_sem, Nat.reduceEqDiff, Nat.reduceAdd, Nat.reduceLeDiff, h1]
      · by_cases hji : j = i
        · rw [hji]; exact hpi
        · exact h3 j (by omega)
      · simp only [go_sem, Nat.reduceEqDiff, Nat.reduceAdd, Nat.reduceLeDiff, hti]
      · simp only [go_sem, Nat.reduceEqDiff, Nat.reduceAdd, Nat.reduceLeDiff, htn]
  · rintro fr σ ⟨h0, h1, h3⟩
    try simp only [if_true]
    (repeat' first
    | refine w_seq ?_ | refine w_rg ?_ | refine wo_nil ?_ | refine g_skU ?_ | refine g_skT ?_ | refine g_skF ?_
    | ((first | apply s_plain | apply s_void | apply s_guard | apply g_goT | apply g_goF); · simp only [go_sem, Nat.reduceEqDiff, Nat.reduceAdd, Nat.reduceLeDiff]; (first | done | rfl))
    | ((first | apply g_T | apply g_F | apply g_gT | apply g_gF); · intro q1_; (first | intro q2_ | have q2_ := q1_); simp only [go_sem, Nat.reduceEqDiff, Nat.reduceAdd, Nat.reduceLeDiff, q1_, q2_]; (first | done | rfl))
    | (apply w_condX; · simp only [go_sem, Nat.reduceEqDiff, Nat.reduceAdd, Nat.reduceLeDiff]; (first | done | rfl)); (first | refine wcd_T ?_ | refine wcd_F ?_)
    | refine w_skip ?_ | refine w_exit ?_ | refine w_ret ?_
    | fail
    )
    exact ⟨.inr rfl, by simp only [go_sem, Nat.reduceEqDiff, Nat.reduceAdd, Nat.reduceLeDiff, retOf, resOf, found_none h3]⟩
  · refine ⟨?_, ?_, fun j hj => by omega⟩ <;> simp only [go_sem, Nat.reduceEqDiff, Nat.reduceAdd, Nat.reduceLeDiff]
  · simp only [go_sem, Nat.reduceEqDiff, Nat.reduceAdd, Nat.reduceLeDiff]
  · simp only [go_sem, Nat.reduceEqDiff, Nat.reduceAdd, Nat.reduceLeDiff, hll]
end

def d204 : Def := (.code 1 [.tmp 2, .tmp 3] (.seq (.rg false [⟨.some 2, .none, .mv (.c (.slice .none 0 0))⟩, ⟨.some 3, .none, .mv (.c (.int .i64 0))⟩]) (.seq (.rg false [⟨.some 13, .none, .mv (.t 0)⟩, ⟨.some 14, .none, .call 54 .pure [.t 13, .c (.string ⟨#[123]⟩)]⟩, ⟨.some 12, .none, .mv (.t 14)⟩, ⟨.some 15, .none, .ext (.t 12) 0⟩, ⟨.some 16, .none, .ext (.t 12) 1⟩, ⟨.some 4, .none, .mv (.t 15)⟩, ⟨.some 5, .none, .mv (.t 16)⟩]) (.seq (.rg false [⟨.some 6, .none, .mv (.c (.slice .none 0 0))⟩]) (.seq (.block 0 (.loop (.seq (.seq (.rg false [⟨.some 17, .none, .mv (.t 5)⟩, ⟨.some 18, .none, .mv (.t 17)⟩, ⟨.some 19, .some (18, true), .mv (.t 4)⟩, ⟨.some 20, .some (18, true), .bin .neq (.t 19) (.c (.string ⟨#[125]⟩))⟩, ⟨.some 21, .none, .pick (.t 18) (.t 20) (.c (.bool false))⟩, ⟨.some 22, .none, .mv (.t 21)⟩, ⟨.some 23, .some (22, true), .mv (.t 6)⟩, ⟨.some 24, .some (22, true), .lenL (.t 23)⟩, ⟨.some 25, .some (22, true), .bin .leq (.t 24) (.c (.int .i64 8))⟩, ⟨.some 26, .none, .pick (.t 22) (.t 25) (.c (.bool false))⟩]) (.cond (.t 26) .skip (.exit 0))) (.block 1 (.seq (.seq (.rg false [⟨.some 27, .none, .mv (.t 6)⟩, ⟨.some 28, .none, .lenL (.t 27)⟩, ⟨.some 29, .none, .bin .gtr (.t 28) (.c (.int .i64 0))⟩]) (.cond (.t 29) (.rg false [⟨.some 31, .none, .mv (.t 4)⟩, ⟨.some 32, .none, .call 54 .pure [.t 31, .c (.string ⟨#[44]⟩)]⟩, ⟨.some 30, .none, .mv (.t 32)⟩, ⟨.some 33, .none, .ext (.t 30) 0⟩, ⟨.some 34, .none, .ext (.t 30) 1⟩, ⟨.some 4, .none, .mv (.t 33)⟩, ⟨.some 5, .none, .mv (.t 34)⟩]) .skip)) (.seq (.rg false [⟨.some 36, .none, .mv (.t 4)⟩, ⟨.some 37, .none, .call 213 .pure [.t 36]⟩, ⟨.some 35, .none, .mv (.t 37)⟩, ⟨.some 38, .none, .ext (.t 35) 0⟩, ⟨.some 39, .none, .ext (.t 35) 1⟩, ⟨.some 40, .none, .ext (.t 35) 2⟩, ⟨.some 7, .none, .box (.c (.agg #[.string ⟨#[]⟩, .string ⟨#[]⟩]))⟩, ⟨.none, .none, .st 2 (.t 7) (.t 38)⟩, ⟨.some 8, .none, .mv (.t 39)⟩, ⟨.some 9, .none, .mv (.t 40)⟩]) (.seq (.seq (.rg false [⟨.some 41, .none, .mv (.t 5)⟩, ⟨.some 42, .none, .un .not (.t 41)⟩, ⟨.some 43, .none, .mv (.t 42)⟩, ⟨.some 44, .some (43, false), .mv (.t 9)⟩, ⟨.some 45, .some (43, false), .un .not (.t 44)⟩, ⟨.some 46, .none, .pick (.t 43) (.c (.bool true)) (.t 45)⟩]) (.cond (.t 46) (.seq (.rg false [⟨.some 2, .none, .mv (.c (.slice .none 0 0))⟩, ⟨.some 3, .none, .mv (.c (.int .i64 6))⟩]) .ret) .skip)) (.rg false [⟨.some 47, .none, .mv (.t 6)⟩, ⟨.some 48, .none, .ld (.some 2) (.t 7)⟩, ⟨.some 49, .none, .bsl 2 (.agg #[.string ⟨#[]⟩, .string ⟨#[]⟩]) 1 [(0, .t 48)]⟩, ⟨.some 50, .none, .app 2 32 false (.t 47) (.t 49)⟩, ⟨.some 51, .none, .mv (.t 8)⟩, ⟨.some 6, .none, .mv (.t 50)⟩, ⟨.some 4, .none, .mv (.t 51)⟩])))))))) (.seq (.seq (.rg false [⟨.some 53, .none, .mv (.t 6)⟩, ⟨.some 54, .none, .call 202 .pure [.t 53]⟩, ⟨.some 52, .none, .mv (.t 54)⟩, ⟨.some 55, .none, .ext (.t 52) 0⟩, ⟨.some 56, .none, .ext (.t 52) 1⟩, ⟨.some 10, .none, .mv (.t 55)⟩, ⟨.some 11, .none, .mv (.t 56)⟩]) (.seq (.rg false [⟨.some 57, .none, .mv (.t 5)⟩, ⟨.some 58, .none, .un .not (.t 57)⟩, ⟨.some 59, .none, .mv (.t 58)⟩, ⟨.some 60, .some (59, false), .mv (.t 11)⟩, ⟨.some 61, .some (59, false), .bin .neq (.t 60) (.c (.int .i64 0))⟩, ⟨.some 62, .none, .pick (.t 59) (.c (.bool true)) (.t 61)⟩, ⟨.some 63, .none, .mv (.t 62)⟩, ⟨.some 64, .some (63, false), .mv (.t 10)⟩, ⟨.some 65, .some (63, false), .mv (.t 0)⟩, ⟨.some 66, .some (63, false), .bin .neq (.t 64) (.t 65)⟩, ⟨.some 67, .none, .pick (.t 63) (.c (.bool true)) (.t 66)⟩]) (.cond (.t 67) (.seq (.rg false [⟨.some 2, .none, .mv (.c (.slice .none 0 0))⟩, ⟨.some 3, .none, .mv (.c (.int .i64 6))⟩]) .ret) .skip))) (.seq (.rg false [⟨.some 68, .none, .mv (.t 6)⟩, ⟨.some 2, .none, .mv (.t 68)⟩, ⟨.some 3, .none, .mv (.c (.int .i64 0))⟩]) .ret)))))))
def lcd : List (Nat × Def) := [(204, d204)]
section
variable {env : Nat → Option Def} {fr : Fr} {σ σ' σ'' : St} {K : Fr → St → Prop} {Q : X → Fr → St → Prop} {p : PV} {bs : List UInt8}
theorem scan_le : ∀ (k : Nat) (s acc v r : List UInt8), s.length ≤ k → scan s acc = some (v, r) → v.length + r.length ≤ s.length + acc.length
  | _, [], acc, v, r, _, h => by simp [scan] at h
  | _, [c], acc, v, r, _, h => by
    simp only [scan] at h
    split at h
    · simp only [Option.some.injEq, Prod.mk.injEq] at h
      obtain ⟨rfl, rfl⟩ := h
      simp
    · cases h
  | 0, c :: d :: s, acc, v, r, hk, h => by simp at hk
  | k + 1, c :: d :: s, acc, v, r, hk, h => by
    simp only [scan] at h
    simp only [List.length_cons] at hk
    split at h
    · simp only [Option.some.injEq, Prod.mk.injEq] at h
      obtain ⟨rfl, rfl⟩ := h
      simp only [List.length_cons]; omega
    · split at h
      · have := scan_le k s _ v r (by omega) h
        simp at this ⊢; omega
      · have := scan_le k (d :: s) _ v r (by simp; omega) h
        simp at this ⊢; omega
theorem oneL_le {s n v r : List UInt8} (h : oneL s = some (n, v, r)) : n.length ≤ s.length ∧ v.length ≤ s.length ∧ r.length ≤ s.length := by
  unfold oneL at h
  obtain ⟨h1, h2⟩ := cut_le s [61, 34]
  split at h
  · obtain ⟨q, hq, h⟩ := Option.map_eq_some_iff.1 h
    simp only [Prod.mk.injEq] at h
    obtain ⟨rfl, rfl, rfl⟩ := h
    have := scan_le _ _ _ q.1 q.2 (Nat.le_refl _) hq
    simp at this
    omega
  · cases h
theorem cutPre_le (s t : List UInt8) : (cutPre s t).length ≤ s.length := by
  unfold cutPre; split <;> simp
theorem labs_fzd (σ : St) (d : Nat) (l : List Lab) : (labs l).mapM (fz σ (d + 2)) = some (labs l) := by
  induction l with
  | nil => rfl
  | cons m r ih =>
    show List.mapM (fz σ (d + 2)) (lab m :: labs r) = _
    rw [mapM_cons', ih]
    rfl
theorem lab_mk (n v : List UInt8) : lab (mkLab n v) = .agg [txt n, txt v] := rfl
theorem a204 (H : Has la0 env) (G : Has lc env) (P : Has lp env) (U : Has lu env) (C : Has lca env) (D : Has lcb env) (B : Has lbb env) (S : Has lbs env) (T : Has lcc env) (V : Has lcd env) {s : List UInt8} (hs : s.length ≤ 4000000000) :
    AV env 204 [txt s] = some (.tu [.sl (labs (parseS s).1), .sc (.int .i64 (parseS s).2)]) := by
  have hpre := a54 D (s := s) (t := [123])
  refine AV_wp (V (204, d204) (by simp [lcd])) rfl ?_
  (repeat' first
    | refine w_seq ?_ | refine w_rg ?_ | refine wo_nil ?_ | refine g_skU ?_ | refine g_skT ?_ | refine g_skF ?_
    | ((first | apply s_plain | apply s_void | apply s_guard | apply g_goT | apply g_goF); · simp only [go_sem, Nat.reduceEqDiff, Nat.reduceAdd, Nat.reduceLeDiff, hpre]; (first | done | rfl))
    | ((first | apply g_T | apply g_F | apply g_gT | apply g_gF); · intro q1_; (first | intro q2_ | have q2_ := q1_); simp only [go_sem, Nat.reduceEqDiff, Nat.reduceAdd, Nat.reduceLeDiff, hpre, q1_, q2_]; (first | done | rfl))
    | fail
    )
  -- what is read, and what comes of it
  refine w_block (w_loopF (fun m fr σ => ∃ (k : Nat) (rest : List UInt8) (out : List Lab) (is : Bool), m = k ∧ k + out.length = 9 ∧ is = [123].isPrefixOf s ∧ fr 4 = txt rest ∧ fr 5 = .sc (.bool is) ∧ Gat σ [50] 2 false (fr 6) (labs out) ∧ rest.length ≤ s.length ∧
      (∀ m ∈ out, m.1.size ≤ s.length ∧ m.2.size ≤ s.length) ∧ (is = true → pl 9 (s.drop 1) [] = pl k rest out) ∧ (is = false → out = [])) ?_ 9 ?_)
  · rintro m fr1 σ1 ⟨k, rest, out, is, rfl, hk, his, f4, f5, hg, hr, hsm, hpl, hno⟩ hfr
    skip
    have z0 : fr1 0 = txt s := by rw [hfr 0 rfl]; simp only [go_sem, Nat.reduceEqDiff, Nat.reduceAdd, Nat.reduceLeDiff]
    have hlp := hg.lenP
    rw [labs_len] at hlp
    generalize hp : fr1 6 = p at hg hlp
    (repeat' first
    | refine w_seq ?_ | refine w_rg ?_ | refine wo_nil ?_ | refine g_skU ?_ | refine g_skT ?_ | refine g_skF ?_
    | ((first | apply s_plain | apply s_void | apply s_guard | apply g_goT | apply g_goF); · simp only [go_sem, Nat.reduceEqDiff, Nat.reduceAdd, Nat.reduceLeDiff, true_and, f4, f5, hp, hlp, ba_data, ba_size, ba_toList, ba_extract, ba_append, List.toList_toArray]; (first | done | rfl))
    | ((first | apply g_T | apply g_F | apply g_gT | apply g_gF); · intro q1_; (first | intro q2_ | have q2_ := q1_); simp only [go_sem, Nat.reduceEqDiff, Nat.reduceAdd, Nat.reduceLeDiff, true_and, f4, f5, hp, hlp, ba_data, ba_size, ba_toList, ba_extract, ba_append, List.toList_toArray, q1_, q2_]; (first | done | rfl))
    | fail
    )
    refine w_condB (b := is && !(rest == [125]) && decide ((out.length : Int) ≤ 8)) (by simp only [go_sem, Nat.reduceEqDiff, Nat.reduceAdd, Nat.reduceLeDiff]; first | done | rfl) (fun hc => ?_) (fun hc => ?_)
    · simp only [Bool.and_eq_true, Bool.not_eq_true', beq_eq_false_iff_ne, decide_eq_true_eq] at hc
      obtain ⟨⟨rfl, hne⟩, h8⟩ := hc
      obtain ⟨k', rfl⟩ : ∃ k', m = k' + 1 := ⟨m - 1, by omega⟩
      have hpl1 := (hpl rfl).trans (show pl (k' + 1) rest out = if out ≠ [] ∧ [44].isPrefixOf rest = false then none else (oneL (if out = [] then rest else cutPre rest [44])).bind fun q => pl k' q.2.2 (out ++ [mkLab q.1 q.2.1]) by rw [pl, if_neg hne])
      refine w_skip ?_
      refine w_block ?_
      refine w_seq ?_
      refine Wp.mono (Q := fun x fr τ => x = .normal ∧ fr 4 = txt (if out = [] then rest else cutPre rest [44]) ∧ fr 5 = .sc (.bool (if out = [] then true else [44].isPrefixOf rest)) ∧ fr 6 = p ∧ fr 0 = txt s ∧ τ = σ1) ?_ ?_
      · have h54 := a54 D (s := rest) (t := [44])
        (repeat' first
    | refine w_seq ?_ | refine w_rg ?_ | refine wo_nil ?_ | refine g_skU ?_ | refine g_skT ?_ | refine g_skF ?_
    | ((first | apply s_plain | apply s_void | apply s_guard | apply g_goT | apply g_goF); · simp only [go_sem, Nat.reduceEqDiff, Nat.reduceAdd, Nat.reduceLeDiff, true_and, hp, hlp]; (first | done | rfl))
    | ((first | apply g_T | apply g_F | apply g_gT | apply g_gF); · intro q1_; (first | intro q2_ | have q2_ := q1_); simp only [go_sem, Nat.reduceEqDiff, Nat.reduceAdd, Nat.reduceLeDiff, true_and, hp, hlp, q1_, q2_]; (first | done | rfl))
    | fail
    )
        by_cases ho : out = []
        · subst ho
          (repeat' first
    | refine w_seq ?_ | refine w_rg ?_ | refine wo_nil ?_ | refine g_skU ?_ | refine g_skT ?_ | refine g_skF ?_
    | ((first | apply s_plain | apply s_void | apply s_guard | apply g_goT | apply g_goF); · simp only [go_sem, Nat.reduceEqDiff, Nat.reduceAdd, Nat.reduceLeDiff]; (first | done | rfl))
    | ((first | apply g_T | apply g_F | apply g_gT | apply g_gF); · intro q1_; (first | intro q2_ | have q2_ := q1_); simp only [go_sem, Nat.reduceEqDiff, Nat.reduceAdd, Nat.reduceLeDiff, q1_, q2_]; (first | done | rfl))
    | (apply w_condX; · simp only [go_sem, Nat.reduceEqDiff, Nat.reduceAdd, Nat.reduceLeDiff]; (first | done | rfl)); (first | refine wcd_T ?_ | refine wcd_F ?_)
    | refine w_skip ?_ | refine w_exit ?_ | refine w_ret ?_
    | fail
    )
          refine ⟨rfl, ?_, ?_, ?_, ?_, rfl⟩ <;> simp only [go_sem, Nat.reduceEqDiff, Nat.reduceAdd, Nat.reduceLeDiff, z0, f4, f5, hp, if_true]
        · have hpos : 0 < out.length := List.length_pos_iff.2 ho
          have hd : decide ((out.length : Int) > 0) = true := by simpa using hpos
          (repeat' first
    | refine w_seq ?_ | refine w_rg ?_ | refine wo_nil ?_ | refine g_skU ?_ | refine g_skT ?_ | refine g_skF ?_
    | ((first | apply s_plain | apply s_void | apply s_guard | apply g_goT | apply g_goF); · simp only [go_sem, Nat.reduceEqDiff, Nat.reduceAdd, Nat.reduceLeDiff, hd, f4, h54]; (first | done | rfl))
    | ((first | apply g_T | apply g_F | apply g_gT | apply g_gF); · intro q1_; (first | intro q2_ | have q2_ := q1_); simp only [go_sem, Nat.reduceEqDiff, Nat.reduceAdd, Nat.reduceLeDiff, hd, f4, h54, q1_, q2_]; (first | done | rfl))
    | (apply w_condX; · simp only [go_sem, Nat.reduceEqDiff, Nat.reduceAdd, Nat.reduceLeDiff, hd, f4, h54]; (first | done | rfl)); (first | refine wcd_T ?_ | refine wcd_F ?_)
    | refine w_skip ?_ | refine w_exit ?_ | refine w_ret ?_
    | fail
    )
          refine ⟨rfl, ?_, ?_, ?_, ?_, rfl⟩ <;> simp only [go_sem, Nat.reduceEqDiff, Nat.reduceAdd, Nat.reduceLeDiff, z0, f4, f5, hp, ho]
      · rintro x fr2 τ ⟨rfl, g4, g5, g6, g0, rfl⟩
        have hrl : (if out = [] then rest else cutPre rest [44]).length ≤ s.length := by
          split
          · exact hr
          · exact Nat.le_trans (cutPre_le _ _) hr
        have hr1 : (if out ≠ [] ∧ [44].isPrefixOf rest = false then none else (oneL (if out = [] then rest else cutPre rest [44])).bind fun q => pl k' q.2.2 (out ++ [mkLab q.1 q.2.1])) =
          if (if out = [] then true else [44].isPrefixOf rest) = false then none else (oneL (if out = [] then rest else cutPre rest [44])).bind fun q => pl k' q.2.2 (out ++ [mkLab q.1 q.2.1]) := by
          by_cases ho : out = [] <;> simp [ho]
        rw [hr1] at hpl1
        generalize (if out = [] then rest else cutPre rest [44]) = r1 at *
        generalize (if out = [] then true else [44].isPrefixOf rest) = is1 at *
        have h213 := a213 C B S T (s := r1) (by omega)
        have hbad : pl 9 (s.drop 1) [] = none → parseS s = ([], 6) := fun e => by unfold parseS; rw [← his, if_pos rfl, e]
        cases hone : oneL r1 with
        | none =>
          rw [hone] at hpl1
          have hb := hbad (by rw [hpl1]; simp)
          rw [show oneA r1 = .tu [.agg [txt [], txt []], txt [], .sc (.bool false)] by unfold oneA; rw [hone]] at h213
          (repeat' first
    | refine w_seq ?_ | refine w_rg ?_ | refine wo_nil ?_ | refine g_skU ?_ | refine g_skT ?_ | refine g_skF ?_
    | ((first | apply s_plain | apply s_void | apply s_guard | apply g_goT | apply g_goF); · simp only [go_sem, Nat.reduceEqDiff, Nat.reduceAdd, Nat.reduceLeDiff, g4, g5, h213, splice, fillP, fillE, List.modify_zero_cons, List.replicate_succ, List.replicate_zero, List.set_cons_zero, List.drop_zero]; (first | done | rfl))
    | ((first | apply g_T | apply g_F | apply g_gT | apply g_gF); · intro q1_; (first | intro q2_ | have q2_ := q1_); simp only [go_sem, Nat.reduceEqDiff, Nat.reduceAdd, Nat.reduceLeDiff, g4, g5, h213, splice, fillP, fillE, List.modify_zero_cons, List.replicate_succ, List.replicate_zero, List.set_cons_zero, List.drop_zero, q1_, q2_]; (first | done | rfl))
    | (apply w_condX; · simp only [go_sem, Nat.reduceEqDiff, Nat.reduceAdd, Nat.reduceLeDiff, g4, g5, h213, splice, fillP, fillE, List.modify_zero_cons, List.replicate_succ, List.replicate_zero, List.set_cons_zero, List.drop_zero]; (first | done | rfl)); (first | refine wcd_T ?_ | refine wcd_F ?_)
    | refine w_skip ?_ | refine w_exit ?_ | refine w_ret ?_
    | fail
    )
          exact ⟨by first | exact .inr rfl | exact .inr trivial | exact .inl rfl, by simp only [go_sem, Nat.reduceEqDiff, Nat.reduceAdd, Nat.reduceLeDiff, retOf, resOf, hb]; first | done | rfl⟩
        | some q =>
          obtain ⟨n, v, r⟩ := q
          obtain ⟨z1, z2, z3⟩ := oneL_le hone
          rw [hone] at hpl1
          rw [show oneA r1 = .tu [.agg [txt n, txt v], txt r, .sc (.bool true)] by unfold oneA; rw [hone]] at h213
          cases is1 with
          | false =>
            have hb := hbad (by rw [hpl1]; simp)
            (repeat' first
    | refine w_seq ?_ | refine w_rg ?_ | refine wo_nil ?_ | refine g_skU ?_ | refine g_skT ?_ | refine g_skF ?_
    | ((first | apply s_plain | apply s_void | apply s_guard | apply g_goT | apply g_goF); · simp only [go_sem, Nat.reduceEqDiff, Nat.reduceAdd, Nat.reduceLeDiff, g4, g5, h213, splice, fillP, fillE, List.modify_zero_cons, List.replicate_succ, List.replicate_zero, List.set_cons_zero, List.drop_zero]; (first | done | rfl))
    | ((first | apply g_T | apply g_F | apply g_gT | apply g_gF); · intro q1_; (first | intro q2_ | have q2_ := q1_); simp only [go_sem, Nat.reduceEqDiff, Nat.reduceAdd, Nat.reduceLeDiff, g4, g5, h213, splice, fillP, fillE, List.modify_zero_cons, List.replicate_succ, List.replicate_zero, List.set_cons_zero, List.drop_zero, q1_, q2_]; (first | done | rfl))
    | (apply w_condX; · simp only [go_sem, Nat.reduceEqDiff, Nat.reduceAdd, Nat.reduceLeDiff, g4, g5, h213, splice, fillP, fillE, List.modify_zero_cons, List.replicate_succ, List.replicate_zero, List.set_cons_zero, List.drop_zero]; (first | done | rfl)); (first | refine wcd_T ?_ | refine wcd_F ?_)
    | refine w_skip ?_ | refine w_exit ?_ | refine w_ret ?_
    | fail
    )
            exact ⟨by first | exact .inr rfl | exact .inr trivial | exact .inl rfl, by simp only [go_sem, Nat.reduceEqDiff, Nat.reduceAdd, Nat.reduceLeDiff, retOf, resOf, hb]; first | done | rfl⟩
          | true =>
            (repeat' first
    | refine w_seq ?_ | refine w_rg ?_ | refine wo_nil ?_ | refine g_skU ?_ | refine g_skT ?_ | refine g_skF ?_
    | ((first | apply s_plain | apply s_void | apply s_guard | apply g_goT | apply g_goF); · simp only [go_sem, Nat.reduceEqDiff, Nat.reduceAdd, Nat.reduceLeDiff, g4, g5, g6, h213, splice, fillP, fillE, List.modify_zero_cons, List.replicate_succ, List.replicate_zero, List.set_cons_zero, List.drop_zero]; (first | done | rfl))
    | ((first | apply g_T | apply g_F | apply g_gT | apply g_gF); · intro q1_; (first | intro q2_ | have q2_ := q1_); simp only [go_sem, Nat.reduceEqDiff, Nat.reduceAdd, Nat.reduceLeDiff, g4, g5, g6, h213, splice, fillP, fillE, List.modify_zero_cons, List.replicate_succ, List.replicate_zero, List.set_cons_zero, List.drop_zero, q1_, q2_]; (first | done | rfl))
    | (apply w_condX; · simp only [go_sem, Nat.reduceEqDiff, Nat.reduceAdd, Nat.reduceLeDiff, g4, g5, g6, h213, splice, fillP, fillE, List.modify_zero_cons, List.replicate_succ, List.replicate_zero, List.set_cons_zero, List.drop_zero]; (first | done | rfl)); (first | refine wcd_T ?_ | refine wcd_F ?_)
    | refine w_skip ?_ | refine w_exit ?_ | refine w_ret ?_
    | fail
    )
            refine s_gat (os := [50]) (w := false) (xs := labs out) (e := .agg [txt n, txt v]) (by simp only [go_sem, Nat.reduceEqDiff, Nat.reduceAdd, Nat.reduceLeDiff]; exact ((hg.new _).put (d := 2000007) (by decide) _).new _) (by decide) (by simp only [go_sem, Nat.reduceEqDiff, Nat.reduceAdd, Nat.reduceLeDiff, srcOf, elemsOf, List.drop_zero]) rfl rfl (by rw [labs_len]; omega) ?_
            intro p2 σ2 hg2
            (repeat' first
    | refine w_seq ?_ | refine w_rg ?_ | refine wo_nil ?_ | refine g_skU ?_ | refine g_skT ?_ | refine g_skF ?_
    | ((first | apply s_plain | apply s_void | apply s_guard | apply g_goT | apply g_goF); · simp only [go_sem, Nat.reduceEqDiff, Nat.reduceAdd, Nat.reduceLeDiff]; (first | done | rfl))
    | ((first | apply g_T | apply g_F | apply g_gT | apply g_gF); · intro q1_; (first | intro q2_ | have q2_ := q1_); simp only [go_sem, Nat.reduceEqDiff, Nat.reduceAdd, Nat.reduceLeDiff, q1_, q2_]; (first | done | rfl))
    | (apply w_condX; · simp only [go_sem, Nat.reduceEqDiff, Nat.reduceAdd, Nat.reduceLeDiff]; (first | done | rfl)); (first | refine wcd_T ?_ | refine wcd_F ?_)
    | refine w_skip ?_ | refine w_exit ?_ | refine w_ret ?_
    | fail
    )
            refine ⟨k', by omega, k', r, out ++ [mkLab n v], true, rfl, by simp; omega, his, by simp only [go_sem, Nat.reduceEqDiff, Nat.reduceAdd, Nat.reduceLeDiff], by simp only [go_sem, Nat.reduceEqDiff, Nat.reduceAdd, Nat.reduceLeDiff, g5], ?_, by omega, ?_, fun _ => by rw [hpl1]; rfl, fun h => by cases h⟩
            · simp only [go_sem, Nat.reduceEqDiff, Nat.reduceAdd, Nat.reduceLeDiff]
              have e : labs (out ++ [mkLab n v]) = labs out ++ [.agg [txt n, txt v]] := by simp [labs, lab_mk]
              rw [e]; exact hg2
            · intro m hm
              rcases List.mem_append.1 hm with h | h
              · exact hsm m h
              · simp only [List.mem_singleton] at h
                subst h
                refine ⟨?_, ?_⟩ <;> simp [mkLab, ByteArray.size] <;> omega
    · have hfin : is = true → pl 9 (s.drop 1) [] = some out := fun hi => by
        rw [hpl hi]
        subst hi
        simp only [Bool.true_and, Bool.and_eq_false_iff, Bool.not_eq_false', beq_iff_eq, decide_eq_false_iff_not] at hc
        cases m with
        | zero => rfl
        | succ m =>
          rcases hc with hc | hc
          · rw [pl, if_pos hc]
          · omega
      have hsm' : Smalls out := fun m hm => by
        have := hsm m hm
        unfold Small
        omega
      have h202 := a202 H G P U (l := out) (by omega) hsm'
      have e0_0 := hfr 0 rfl; try (simp only [go_sem, Nat.reduceEqDiff, Nat.reduceAdd, Nat.reduceLeDiff] at e0_0)
      refine w_exit ?_
      try simp only [if_true]
      have hfz := hg.fz (labs_fz σ1 out)
      (repeat' first
    | refine w_seq ?_ | refine w_rg ?_ | refine wo_nil ?_ | refine g_skU ?_ | refine g_skT ?_ | refine g_skF ?_
    | ((first | apply s_plain | apply s_void | apply s_guard | apply g_goT | apply g_goF); · simp only [go_sem, Nat.reduceEqDiff, Nat.reduceAdd, Nat.reduceLeDiff, hp, hfz, f5, h202, e0_0, ba_data, ba_size, ba_toList, ba_extract, ba_append, List.toList_toArray]; (first | done | rfl))
    | ((first | apply g_T | apply g_F | apply g_gT | apply g_gF); · intro q1_; (first | intro q2_ | have q2_ := q1_); simp only [go_sem, Nat.reduceEqDiff, Nat.reduceAdd, Nat.reduceLeDiff, hp, hfz, f5, h202, e0_0, ba_data, ba_size, ba_toList, ba_extract, ba_append, List.toList_toArray, q1_, q2_]; (first | done | rfl))
    | fail
    )
      refine w_condB (b := !is || !decide (rightL out = true) || !decide ((textS out).data.toList = s)) (by simp only [go_sem, Nat.reduceEqDiff, Nat.reduceAdd, Nat.reduceLeDiff]; congr 2; by_cases h : rightL out = true <;> cases is <;> simp [h, ByteArray.toList_eq] <;> (rw [Bool.eq_iff_iff]; simp)) (fun hd => ?_) (fun hd => ?_)
      · have hb : parseS s = ([], 6) := by
          unfold parseS
          rw [← his]
          cases is with
          | false => rfl
          | true =>
            rw [if_pos rfl, hfin rfl]
            simp only
            rw [if_neg]
            rintro ⟨h1, h2⟩
            simp [h1, h2] at hd
        (repeat' first
    | refine w_seq ?_ | refine w_rg ?_ | refine wo_nil ?_ | refine g_skU ?_ | refine g_skT ?_ | refine g_skF ?_
    | ((first | apply s_plain | apply s_void | apply s_guard | apply g_goT | apply g_goF); · simp only [go_sem, Nat.reduceEqDiff, Nat.reduceAdd, Nat.reduceLeDiff]; (first | done | rfl))
    | ((first | apply g_T | apply g_F | apply g_gT | apply g_gF); · intro q1_; (first | intro q2_ | have q2_ := q1_); simp only [go_sem, Nat.reduceEqDiff, Nat.reduceAdd, Nat.reduceLeDiff, q1_, q2_]; (first | done | rfl))
    | (apply w_condX; · simp only [go_sem, Nat.reduceEqDiff, Nat.reduceAdd, Nat.reduceLeDiff]; (first | done | rfl)); (first | refine wcd_T ?_ | refine wcd_F ?_)
    | refine w_skip ?_ | refine w_exit ?_ | refine w_ret ?_
    | fail
    )
        exact ⟨by first | exact .inr rfl | exact .inr trivial | exact .inl rfl, by simp only [go_sem, Nat.reduceEqDiff, Nat.reduceAdd, Nat.reduceLeDiff, retOf, resOf, hb]; first | done | rfl⟩
      · simp only [Bool.or_eq_false_iff, Bool.not_eq_false', decide_eq_true_eq] at hd
        obtain ⟨⟨rfl, h1⟩, h2⟩ := hd
        have hb : parseS s = (out, 0) := by
          unfold parseS
          rw [← his, if_pos rfl, hfin rfl]
          simp only
          rw [if_pos ⟨h1, h2⟩]
        (repeat' first
    | refine w_seq ?_ | refine w_rg ?_ | refine wo_nil ?_ | refine g_skU ?_ | refine g_skT ?_ | refine g_skF ?_
    | ((first | apply s_plain | apply s_void | apply s_guard | apply g_goT | apply g_goF); · simp only [go_sem, Nat.reduceEqDiff, Nat.reduceAdd, Nat.reduceLeDiff, hp]; (first | done | rfl))
    | ((first | apply g_T | apply g_F | apply g_gT | apply g_gF); · intro q1_; (first | intro q2_ | have q2_ := q1_); simp only [go_sem, Nat.reduceEqDiff, Nat.reduceAdd, Nat.reduceLeDiff, hp, q1_, q2_]; (first | done | rfl))
    | (apply w_condX; · simp only [go_sem, Nat.reduceEqDiff, Nat.reduceAdd, Nat.reduceLeDiff, hp]; (first | done | rfl)); (first | refine wcd_T ?_ | refine wcd_F ?_)
    | refine w_skip ?_ | refine w_exit ?_ | refine w_ret ?_
    | fail
    )
        exact ⟨by first | exact .inr rfl | exact .inr trivial | exact .inl rfl, by simp only [go_sem, Nat.reduceEqDiff, Nat.reduceAdd, Nat.reduceLeDiff, retOf, resOf, hb, gat_fzd hg (labs_fzd σ1 8 out)]; first | done | rfl⟩
  · exact ⟨9, cutPre s [123], [], [123].isPrefixOf s, rfl, rfl, rfl, by simp only [go_sem, Nat.reduceEqDiff, Nat.reduceAdd, Nat.reduceLeDiff], by simp only [go_sem, Nat.reduceEqDiff, Nat.reduceAdd, Nat.reduceLeDiff], by simp only [go_sem, Nat.reduceEqDiff, Nat.reduceAdd, Nat.reduceLeDiff]; exact .em, cutPre_le _ _, fun m hm => by simp at hm, fun h => by simp only [cutPre, h, if_true]; rfl, fun _ => rfl⟩
end

def d214 : Def := (.code 2 [.cell 4 (.some 3)] (.seq (.rg false [⟨.some 4, .none, .box (.c (.agg #[.string ⟨#[]⟩, .string ⟨#[]⟩, .int .i64 0]))⟩]) (.seq (.rg false [⟨.some 8, .none, .mv (.t 1)⟩, ⟨.some 5, .none, .mv (.t 8)⟩]) (.seq (.block 0 (.loop (.seq (.seq (.rg false [⟨.some 9, .none, .mv (.t 1)⟩, ⟨.some 10, .none, .mv (.t 0)⟩, ⟨.some 11, .none, .lenS (.t 10)⟩, ⟨.some 12, .none, .bin .lss (.t 9) (.t 11)⟩, ⟨.some 13, .none, .mv (.t 12)⟩, ⟨.some 14, .some (13, true), .mv (.t 0)⟩, ⟨.some 15, .some (13, true), .mv (.t 1)⟩, ⟨.some 16, .some (13, true), .ix (.t 14) (.t 15)⟩, ⟨.some 17, .some (13, true), .bin .neq (.t 16) (.c (.int .u8 61))⟩, ⟨.some 18, .none, .pick (.t 13) (.t 17) (.c (.bool false))⟩]) (.cond (.t 18) .skip (.exit 0))) (.block 1 (.rg false [⟨.some 19, .none, .mv (.t 1)⟩, ⟨.some 20, .none, .bin .add (.t 19) (.c (.int .i64 1))⟩, ⟨.some 1, .none, .mv (.t 20)⟩]))))) (.seq (.seq (.rg false [⟨.some 21, .none, .mv (.t 1)⟩, ⟨.some 22, .none, .bin .add (.t 21) (.c (.int .i64 1))⟩, ⟨.some 23, .none, .mv (.t 0)⟩, ⟨.some 24, .none, .lenS (.t 23)⟩, ⟨.some 25, .none, .bin .geq (.t 22) (.t 24)⟩, ⟨.some 26, .none, .mv (.t 25)⟩, ⟨.some 27, .some (26, false), .mv (.t 0)⟩, ⟨.some 28, .some (26, false), .mv (.t 1)⟩, ⟨.some 29, .some (26, false), .bin .add (.t 28) (.c (.int .i64 1))⟩, ⟨.some 30, .some (26, false), .ix (.t 27) (.t 29)⟩, ⟨.some 31, .some (26, false), .bin .neq (.t 30) (.c (.int .u8 34))⟩, ⟨.some 32, .none, .pick (.t 26) (.c (.bool true)) (.t 31)⟩]) (.cond (.t 32) (.seq (.rg false [⟨.some 33, .none, .build (.agg #[.string ⟨#[]⟩, .string ⟨#[]⟩, .int .i64 0]) [(2, (1, .c (.int .i64 (-1))))]⟩, ⟨.none, .none, .st 3 (.t 4) (.t 33)⟩]) .ret) .skip)) (.seq (.rg false [⟨.some 34, .none, .mv (.t 0)⟩, ⟨.some 35, .none, .mv (.t 5)⟩, ⟨.some 36, .none, .mv (.t 1)⟩, ⟨.some 37, .none, .slcS (.t 34) (.some (.t 35)) (.some (.t 36))⟩, ⟨.some 38, .none, .build (.agg #[.string ⟨#[]⟩, .string ⟨#[]⟩]) [(0, (1, .t 37))]⟩, ⟨.some 6, .none, .box (.c (.agg #[.string ⟨#[]⟩, .string ⟨#[]⟩]))⟩, ⟨.none, .none, .st 2 (.t 6) (.t 38)⟩]) (.seq (.rg false [⟨.some 39, .none, .mv (.c (.slice .none 0 0))⟩, ⟨.some 7, .none, .mv (.t 39)⟩]) (.seq (.rg false [⟨.some 40, .none, .mv (.t 1)⟩, ⟨.some 41, .none, .bin .add (.t 40) (.c (.int .i64 2))⟩, ⟨.some 1, .none, .mv (.t 41)⟩]) (.seq (.block 2 (.loop (.seq (.seq (.rg false [⟨.some 42, .none, .mv (.t 1)⟩, ⟨.some 43, .none, .mv (.t 0)⟩, ⟨.some 44, .none, .lenS (.t 43)⟩, ⟨.some 45, .none, .bin .lss (.t 42) (.t 44)⟩, ⟨.some 46, .none, .mv (.t 45)⟩, ⟨.some 47, .some (46, true), .mv (.t 0)⟩, ⟨.some 48, .some (46, true), .mv (.t 1)⟩, ⟨.some 49, .some (46, true), .ix (.t 47) (.t 48)⟩, ⟨.some 50, .some (46, true), .bin .neq (.t 49) (.c (.int .u8 34))⟩, ⟨.some 51, .none, .pick (.t 46) (.t 50) (.c (.bool false))⟩]) (.cond (.t 51) .skip (.exit 2))) (.block 3 (.seq (.seq (.rg false [⟨.some 52, .none, .mv (.t 0)⟩, ⟨.some 53, .none, .mv (.t 1)⟩, ⟨.some 54, .none, .ix (.t 52) (.t 53)⟩, ⟨.some 55, .none, .bin .eql (.t 54) (.c (.int .u8 92))⟩]) (.cond (.t 55) (.rg false [⟨.some 56, .none, .mv (.t 1)⟩, ⟨.some 57, .none, .bin .add (.t 56) (.c (.int .i64 1))⟩, ⟨.some 1, .none, .mv (.t 57)⟩]) .skip)) (.seq (.seq (.rg false [⟨.some 58, .none, .mv (.t 1)⟩, ⟨.some 59, .none, .mv (.t 0)⟩, ⟨.some 60, .none, .lenS (.t 59)⟩, ⟨.some 61, .none, .bin .lss (.t 58) (.t 60)⟩]) (.cond (.t 61) (.rg false [⟨.some 62, .none, .mv (.t 7)⟩, ⟨.some 63, .none, .mv (.t 0)⟩, ⟨.some 64, .none, .mv (.t 1)⟩, ⟨.some 65, .none, .ix (.t 63) (.t 64)⟩, ⟨.some 66, .none, .bsl 1 (.int .u8 0) 1 [(0, .t 65)]⟩, ⟨.some 67, .none, .app 1 1 false (.t 62) (.t 66)⟩, ⟨.some 7, .none, .mv (.t 67)⟩]) .skip)) (.rg false [⟨.some 68, .none, .mv (.t 1)⟩, ⟨.some 69, .none, .bin .add (.t 68) (.c (.int .i64 1))⟩, ⟨.some 1, .none, .mv (.t 69)⟩]))))))) (.seq (.seq (.rg false [⟨.some 70, .none, .mv (.t 1)⟩, ⟨.some 71, .none, .mv (.t 0)⟩, ⟨.some 72, .none, .lenS (.t 71)⟩, ⟨.some 73, .none, .bin .geq (.t 70) (.t 72)⟩]) (.cond (.t 73) (.seq (.rg false [⟨.some 74, .none, .build (.agg #[.string ⟨#[]⟩, .string ⟨#[]⟩, .int .i64 0]) [(2, (1, .c (.int .i64 (-1))))]⟩, ⟨.none, .none, .st 3 (.t 4) (.t 74)⟩]) .ret) .skip)) (.seq (.rg false [⟨.some 75, .none, .mv (.t 7)⟩, ⟨.some 76, .none, .b2s (.t 75)⟩, ⟨.some 77, .none, .fa 1 (.t 6)⟩, ⟨.none, .none, .st 1 (.t 77) (.t 76)⟩]) (.seq (.rg false [⟨.some 78, .none, .ld (.some 2) (.t 6)⟩, ⟨.some 79, .none, .mv (.t 1)⟩, ⟨.some 80, .none, .bin .add (.t 79) (.c (.int .i64 1))⟩, ⟨.some 81, .none, .build (.agg #[.string ⟨#[]⟩, .string ⟨#[]⟩, .int .i64 0]) [(0, (2, .t 78)), (2, (1, .t 80))]⟩, ⟨.none, .none, .st 3 (.t 4) (.t 81)⟩]) .ret))))))))))))
def lce : List (Nat × Def) := [(214, d214)]
section
variable {env : Nat → Option Def} {fr : Fr} {σ σ' σ'' : St} {K : Fr → St → Prop} {Q : X → Fr → St → Prop} {p : PV} {bs : List UInt8}
def eqAt (l : List UInt8) : Nat := (l.takeWhile (fun b => b != 61)).length
def oneR (l : List UInt8) : Option (List UInt8 × List UInt8 × List UInt8) := match l.drop (eqAt l) with
  | 61 :: 34 :: r => (scan r []).map fun q => (l.take (eqAt l), q.1, q.2)
  | _ => none
theorem eqAt_step {s : List UInt8} {i : Nat} (h : i < s.length) (hc : s[i] ≠ 61) : eqAt (s.drop i) = eqAt (s.drop (i + 1)) + 1 := by
  rw [drop_at h]
  unfold eqAt
  rw [List.takeWhile_cons, if_pos (by simpa using hc)]
  rfl
theorem eqAt_zero {s : List UInt8} {i : Nat} (h : ∀ (hi : i < s.length), s[i] = 61) : eqAt (s.drop i) = 0 := by
  by_cases hi : i < s.length
  · rw [drop_at hi]
    unfold eqAt
    rw [List.takeWhile_cons, if_neg (by simp [h hi])]
    rfl
  · rw [List.drop_eq_nil_of_le (by omega)]; rfl
def oneB (s : List UInt8) (a : Nat) : PV := match oneR (s.drop a) with
  | some (n, v, r) => .agg [txt n, txt v, .sc (.int .i64 (s.length - r.length : Nat))]
  | none => .agg [txt [], txt [], .sc (.int .i64 (-1))]
theorem a214 (E : Has lce env) {s : List UInt8} {a : Nat} (hs : s.length ≤ 4000000000) (ha : a ≤ s.length) : AV env 214 [txt s, .sc (.int .i64 a)] = some (oneB s a) := by
  refine AV_wp (E (214, d214) (by simp [lce])) rfl ?_
  (repeat' first
    | refine w_seq ?_ | refine w_rg ?_ | refine wo_nil ?_ | refine g_skU ?_ | refine g_skT ?_ | refine g_skF ?_
    | ((first | apply s_plain | apply s_void | apply s_guard | apply g_goT | apply g_goF); · simp only [go_sem, Nat.reduceEqDiff, Nat.reduceAdd, Nat.reduceLeDiff]; (first | done | rfl))
    | ((first | apply g_T | apply g_F | apply g_gT | apply g_gF); · intro q1_; (first | intro q2_ | have q2_ := q1_); simp only [go_sem, Nat.reduceEqDiff, Nat.reduceAdd, Nat.reduceLeDiff, q1_, q2_]; (first | done | rfl))
    | fail
    )
  refine w_block (w_loopF (fun m fr σ => ∃ i : Nat, m = s.length - i ∧ a ≤ i ∧ i ≤ s.length ∧ fr 1 = .sc (.int .i64 i) ∧ eqAt (s.drop a) = (i - a) + eqAt (s.drop i) ∧ σ = St.nil.new 2000004 ⟨3, [.agg [txt [], txt [], .sc (.int .i64 0)]], true, true⟩) ?_ (s.length - a) ?_)
  · rintro m fr1 σ1 ⟨i, rfl, hai, hi, f1, hq, rfl⟩ hfr
    have f0_0 := hfr 0 rfl; try (simp only [go_sem, Nat.reduceEqDiff, Nat.reduceAdd, Nat.reduceLeDiff] at f0_0)
    have z5 : fr1 5 = .sc (.int .i64 a) := by rw [hfr 5 rfl]; simp only [go_sem, Nat.reduceEqDiff, Nat.reduceAdd, Nat.reduceLeDiff]
    have z4 : fr1 4 = .bx 2000004 0 3 0 0 := by rw [hfr 4 rfl]; simp only [go_sem, Nat.reduceEqDiff, Nat.reduceAdd, Nat.reduceLeDiff]
    (repeat' first
    | refine w_seq ?_ | refine w_rg ?_ | refine wo_nil ?_ | refine g_skU ?_ | refine g_skT ?_ | refine g_skF ?_
    | ((first | apply s_plain | apply s_void | apply s_guard | apply g_goT | apply g_goF); · simp only [go_sem, Nat.reduceEqDiff, Nat.reduceAdd, Nat.reduceLeDiff, f0_0, f1, ba_data, ba_size, ba_toList, ba_extract, ba_append, List.toList_toArray]; (first | done | rfl))
    | ((first | apply g_T | apply g_F | apply g_gT | apply g_gF); · intro q1_; (first | intro q2_ | have q2_ := q1_); simp only [go_sem, Nat.reduceEqDiff, Nat.reduceAdd, Nat.reduceLeDiff, f0_0, f1, ba_data, ba_size, ba_toList, ba_extract, ba_append, List.toList_toArray, q1_, q2_]; (first | done | rfl))
    | fail
    )
    refine g_T (v := .sc (.int .u8 (byteD s i).toNat)) (by
      intro hb
      have hlt : i < s.length := by simpa using hb
      have hi0 : (0 : Int) ≤ (i : Int) := by omega
      simp only [go_sem, Nat.reduceEqDiff, Nat.reduceAdd, Nat.reduceLeDiff, f0_0, f1, hb, ba_data, ba_size, ba_toList, ba_extract, ba_append, List.toList_toArray, hi0, Int.toNat_natCast, byteD_q hlt]) ?_
    (repeat' first
    | refine w_seq ?_ | refine w_rg ?_ | refine wo_nil ?_ | refine g_skU ?_ | refine g_skT ?_ | refine g_skF ?_
    | ((first | apply s_plain | apply s_void | apply s_guard | apply g_goT | apply g_goF); · simp only [go_sem, Nat.reduceEqDiff, Nat.reduceAdd, Nat.reduceLeDiff]; (first | done | rfl))
    | ((first | apply g_T | apply g_F | apply g_gT | apply g_gF); · intro q1_; (first | intro q2_ | have q2_ := q1_); simp only [go_sem, Nat.reduceEqDiff, Nat.reduceAdd, Nat.reduceLeDiff, q1_, q2_]; (first | done | rfl))
    | fail
    )
    refine w_condB (b := decide ((i : Int) < (s.length : Int)) && (byteD s i != 61)) (by simp only [go_sem, Nat.reduceEqDiff, Nat.reduceAdd, Nat.reduceLeDiff]; rw [u8_ne _ 61 (z := 61) rfl]) (fun hc => ?_) (fun hc => ?_)
    · simp only [Bool.and_eq_true, decide_eq_true_eq, bne_iff_ne] at hc
      have hlt : i < s.length := by omega
      rw [byteD_at hlt] at hc
      have w1 : IntKind.i64.wrap ((i : Int) + 1) = ((i + 1 : Nat) : Int) := by rw [IntKind.wrap_i64]; omega
      refine w_skip ?_
      refine w_block ?_
      (repeat' first
    | refine w_seq ?_ | refine w_rg ?_ | refine wo_nil ?_ | refine g_skU ?_ | refine g_skT ?_ | refine g_skF ?_
    | ((first | apply s_plain | apply s_void | apply s_guard | apply g_goT | apply g_goF); · simp only [go_sem, Nat.reduceEqDiff, Nat.reduceAdd, Nat.reduceLeDiff, f1, w1]; (first | done | rfl))
    | ((first | apply g_T | apply g_F | apply g_gT | apply g_gF); · intro q1_; (first | intro q2_ | have q2_ := q1_); simp only [go_sem, Nat.reduceEqDiff, Nat.reduceAdd, Nat.reduceLeDiff, f1, w1, q1_, q2_]; (first | done | rfl))
    | fail
    )
      refine ⟨s.length - (i + 1), by omega, i + 1, rfl, by omega, hlt, by simp only [go_sem, Nat.reduceEqDiff, Nat.reduceAdd, Nat.reduceLeDiff], ?_, rfl⟩
      rw [hq, eqAt_step hlt hc.2]; omega
    · have hz : eqAt (s.drop i) = 0 := eqAt_zero fun hi' => by
        simp only [Bool.and_eq_false_iff, decide_eq_false_iff_not, bne_eq_false_iff_eq] at hc
        rcases hc with hc | hc
        · omega
        · rw [← byteD_at hi']; exact hc
      rw [hz, Nat.add_zero] at hq
      refine w_exit ?_
      try simp only [if_true]
      have hi0 : (0 : Int) ≤ ((i + 1 : Nat) : Int) := by omega
      have w1 : IntKind.i64.wrap ((i : Int) + 1) = ((i + 1 : Nat) : Int) := by rw [IntKind.wrap_i64]; omega
      have w2 : IntKind.i64.wrap ((i : Int) + 2) = ((i + 2 : Nat) : Int) := by rw [IntKind.wrap_i64]; omega
      (repeat' first
    | refine w_seq ?_ | refine w_rg ?_ | refine wo_nil ?_ | refine g_skU ?_ | refine g_skT ?_ | refine g_skF ?_
    | ((first | apply s_plain | apply s_void | apply s_guard | apply g_goT | apply g_goF); · simp only [go_sem, Nat.reduceEqDiff, Nat.reduceAdd, Nat.reduceLeDiff, f0_0, f1, w1, ba_data, ba_size, ba_toList, ba_extract, ba_append, List.toList_toArray]; (first | done | rfl))
    | ((first | apply g_T | apply g_F | apply g_gT | apply g_gF); · intro q1_; (first | intro q2_ | have q2_ := q1_); simp only [go_sem, Nat.reduceEqDiff, Nat.reduceAdd, Nat.reduceLeDiff, f0_0, f1, w1, ba_data, ba_size, ba_toList, ba_extract, ba_append, List.toList_toArray, q1_, q2_]; (first | done | rfl))
    | fail
    )
      refine g_F (v := .sc (.int .u8 (byteD s (i + 1)).toNat)) (by
        intro hb
        have hlt : i + 1 < s.length := by
          have : ¬ (((i + 1 : Nat) : Int) ≥ (s.length : Int)) := by simpa using hb
          omega
        simp only [go_sem, Nat.reduceEqDiff, Nat.reduceAdd, Nat.reduceLeDiff, f0_0, f1, w1, hb, ba_data, ba_size, ba_toList, ba_extract, ba_append, List.toList_toArray, hi0, Int.toNat_natCast, byteD_q hlt]) ?_
      (repeat' first
    | refine w_seq ?_ | refine w_rg ?_ | refine wo_nil ?_ | refine g_skU ?_ | refine g_skT ?_ | refine g_skF ?_
    | ((first | apply s_plain | apply s_void | apply s_guard | apply g_goT | apply g_goF); · simp only [go_sem, Nat.reduceEqDiff, Nat.reduceAdd, Nat.reduceLeDiff]; (first | done | rfl))
    | ((first | apply g_T | apply g_F | apply g_gT | apply g_gF); · intro q1_; (first | intro q2_ | have q2_ := q1_); simp only [go_sem, Nat.reduceEqDiff, Nat.reduceAdd, Nat.reduceLeDiff, q1_, q2_]; (first | done | rfl))
    | fail
    )
      have hdr : (s.drop a).drop (i - a) = s.drop i := by rw [List.drop_drop]; congr 1; omega
      refine w_condB (b := decide (((i + 1 : Nat) : Int) ≥ (s.length : Int)) || (byteD s (i + 1) != 34)) (by simp only [go_sem, Nat.reduceEqDiff, Nat.reduceAdd, Nat.reduceLeDiff]; rw [u8_ne _ 34 (z := 34) rfl]) (fun hc => ?_) (fun hc => ?_)
      · have hb : oneB s a = .agg [txt [], txt [], .sc (.int .i64 (-1))] := by
          unfold oneB oneR
          rw [hq, hdr]
          split
          · rename_i n v r hm
            exfalso
            split at hm
            · rename_i r2 h2
              by_cases h1 : i + 1 < s.length
              · rw [drop_at (by omega), drop_at h1] at h2
                simp only [List.cons.injEq] at h2
                rw [byteD_at h1, h2.2.1] at hc
                simp only [bne_self_eq_false, Bool.or_false, decide_eq_true_eq] at hc
                omega
              · have := congrArg List.length h2
                simp at this
                omega
            · cases hm
          · rfl
        (repeat' first
    | refine w_seq ?_ | refine w_rg ?_ | refine wo_nil ?_ | refine g_skU ?_ | refine g_skT ?_ | refine g_skF ?_
    | ((first | apply s_plain | apply s_void | apply s_guard | apply g_goT | apply g_goF); · simp only [go_sem, Nat.reduceEqDiff, Nat.reduceAdd, Nat.reduceLeDiff, z4, splice, fillP, fillE, List.modify_zero_cons, List.replicate_succ, List.replicate_zero, List.set_cons_zero, List.drop_zero]; (first | done | rfl))
    | ((first | apply g_T | apply g_F | apply g_gT | apply g_gF); · intro q1_; (first | intro q2_ | have q2_ := q1_); simp only [go_sem, Nat.reduceEqDiff, Nat.reduceAdd, Nat.reduceLeDiff, z4, splice, fillP, fillE, List.modify_zero_cons, List.replicate_succ, List.replicate_zero, List.set_cons_zero, List.drop_zero, q1_, q2_]; (first | done | rfl))
    | (apply w_condX; · simp only [go_sem, Nat.reduceEqDiff, Nat.reduceAdd, Nat.reduceLeDiff, z4, splice, fillP, fillE, List.modify_zero_cons, List.replicate_succ, List.replicate_zero, List.set_cons_zero, List.drop_zero]; (first | done | rfl)); (first | refine wcd_T ?_ | refine wcd_F ?_)
    | refine w_skip ?_ | refine w_exit ?_ | refine w_ret ?_
    | fail
    )
        exact ⟨by first | exact .inr rfl | exact .inr trivial | exact .inl rfl, by simp only [go_sem, Nat.reduceEqDiff, Nat.reduceAdd, Nat.reduceLeDiff, retOf, resOf, hb, List.modify_zero_cons, z4]; first | done | rfl⟩
      · simp only [Bool.or_eq_false_iff, decide_eq_false_iff_not, bne_eq_false_iff_eq] at hc
        have hlt : i + 1 < s.length := by omega
        rw [byteD_at hlt] at hc
        have h61 : s[i] = 61 := by
          have := eqAt_step (s := s) (i := i) (by omega)
          by_cases h : s[i]'(by omega) = 61
          · exact h
          · have := this h; omega
        have hone : oneR (s.drop a) = (scan (s.drop (i + 2)) []).map fun q => ((s.drop a).take (i - a), q.1, q.2) := by
          unfold oneR
          rw [hq, hdr, drop_at (show i < s.length by omega), drop_at hlt, h61, hc.2]
          rfl
        have b1 : (0 : Int) ≤ (a : Int) ∧ (a : Int) ≤ (i : Int) := by omega
        have b2 : (0 : Int) ≤ (i : Int) ∧ (i : Int) ≤ (s.length : Int) := by omega
        (repeat' first
    | refine w_seq ?_ | refine w_rg ?_ | refine wo_nil ?_ | refine g_skU ?_ | refine g_skT ?_ | refine g_skF ?_
    | ((first | apply s_plain | apply s_void | apply s_guard | apply g_goT | apply g_goF); · simp only [go_sem, Nat.reduceEqDiff, Nat.reduceAdd, Nat.reduceLeDiff, f0_0, z5, f1, w2, ba_data, ba_size, ba_toList, ba_extract, ba_append, List.toList_toArray, bound, b1, b2, Int.toNat_natCast, splice, fillP, fillE, List.modify_zero_cons, List.replicate_succ, List.replicate_zero, List.set_cons_zero, List.drop_zero]; (first | done | rfl))
    | ((first | apply g_T | apply g_F | apply g_gT | apply g_gF); · intro q1_; (first | intro q2_ | have q2_ := q1_); simp only [go_sem, Nat.reduceEqDiff, Nat.reduceAdd, Nat.reduceLeDiff, f0_0, z5, f1, w2, ba_data, ba_size, ba_toList, ba_extract, ba_append, List.toList_toArray, bound, b1, b2, Int.toNat_natCast, splice, fillP, fillE, List.modify_zero_cons, List.replicate_succ, List.replicate_zero, List.set_cons_zero, List.drop_zero, q1_, q2_]; (first | done | rfl))
    | (apply w_condX; · simp only [go_sem, Nat.reduceEqDiff, Nat.reduceAdd, Nat.reduceLeDiff, f0_0, z5, f1, w2, ba_data, ba_size, ba_toList, ba_extract, ba_append, List.toList_toArray, bound, b1, b2, Int.toNat_natCast, splice, fillP, fillE, List.modify_zero_cons, List.replicate_succ, List.replicate_zero, List.set_cons_zero, List.drop_zero]; (first | done | rfl)); (first | refine wcd_T ?_ | refine wcd_F ?_)
    | refine w_skip ?_ | refine w_exit ?_ | refine w_ret ?_
    | fail
    )
        have hn : (s.take i).drop a = (s.drop a).take (i - a) := by rw [List.drop_take]
        rw [hn]
        generalize (s.drop a).take (i - a) = n at *
        refine w_block (w_loopF (fun m fr σ => ∃ (j : Nat) (acc : List UInt8), m = s.length + 1 - j ∧ j ≤ s.length + 1 ∧ fr 1 = .sc (.int .i64 j) ∧ Gat σ [67] 1 false (fr 7) (bp acc) ∧ acc.length ≤ j ∧ scan (s.drop (i + 2)) [] = scan (s.drop j) acc ∧
          σ.m 2000004 0 = some ⟨3, [.agg [txt [], txt [], .sc (.int .i64 0)]], true, true⟩ ∧ σ.m 2000006 0 = some ⟨2, [.agg [txt n, txt []]], true, true⟩ ∧ 0 < σ.c 2000004 ∧ 0 < σ.c 2000006) ?_ (s.length + 1 - (i + 2)) ?_)
        · rintro m fr2 σ2 ⟨j, acc, rfl, hj, g1, hg, hal, hsc, hm4, hm6, hc4, hc6⟩ hfr
          have f1_0 := hfr 0 rfl; try (simp only [go_sem, Nat.reduceEqDiff, Nat.reduceAdd, Nat.reduceLeDiff, f0_0] at f1_0)
          have y4 : fr2 4 = .bx 2000004 0 3 0 0 := by rw [hfr 4 rfl]; simp only [go_sem, Nat.reduceEqDiff, Nat.reduceAdd, Nat.reduceLeDiff, z4]
          have y6 : fr2 6 = .bx 2000006 0 2 0 0 := by rw [hfr 6 rfl]; simp only [go_sem, Nat.reduceEqDiff, Nat.reduceAdd, Nat.reduceLeDiff]
          (repeat' first
    | refine w_seq ?_ | refine w_rg ?_ | refine wo_nil ?_ | refine g_skU ?_ | refine g_skT ?_ | refine g_skF ?_
    | ((first | apply s_plain | apply s_void | apply s_guard | apply g_goT | apply g_goF); · simp only [go_sem, Nat.reduceEqDiff, Nat.reduceAdd, Nat.reduceLeDiff, f1_0, g1, ba_data, ba_size, ba_toList, ba_extract, ba_append, List.toList_toArray]; (first | done | rfl))
    | ((first | apply g_T | apply g_F | apply g_gT | apply g_gF); · intro q1_; (first | intro q2_ | have q2_ := q1_); simp only [go_sem, Nat.reduceEqDiff, Nat.reduceAdd, Nat.reduceLeDiff, f1_0, g1, ba_data, ba_size, ba_toList, ba_extract, ba_append, List.toList_toArray, q1_, q2_]; (first | done | rfl))
    | fail
    )
          refine g_T (v := .sc (.int .u8 (byteD s j).toNat)) (by
            intro hb
            have hlt : j < s.length := by simpa using hb
            have hi0 : (0 : Int) ≤ (j : Int) := by omega
            simp only [go_sem, Nat.reduceEqDiff, Nat.reduceAdd, Nat.reduceLeDiff, f1_0, g1, hb, ba_data, ba_size, ba_toList, ba_extract, ba_append, List.toList_toArray, hi0, Int.toNat_natCast, byteD_q hlt]) ?_
          (repeat' first
    | refine w_seq ?_ | refine w_rg ?_ | refine wo_nil ?_ | refine g_skU ?_ | refine g_skT ?_ | refine g_skF ?_
    | ((first | apply s_plain | apply s_void | apply s_guard | apply g_goT | apply g_goF); · simp only [go_sem, Nat.reduceEqDiff, Nat.reduceAdd, Nat.reduceLeDiff]; (first | done | rfl))
    | ((first | apply g_T | apply g_F | apply g_gT | apply g_gF); · intro q1_; (first | intro q2_ | have q2_ := q1_); simp only [go_sem, Nat.reduceEqDiff, Nat.reduceAdd, Nat.reduceLeDiff, q1_, q2_]; (first | done | rfl))
    | fail
    )
          refine w_condB (b := decide ((j : Int) < (s.length : Int)) && (byteD s j != 34)) (by simp only [go_sem, Nat.reduceEqDiff, Nat.reduceAdd, Nat.reduceLeDiff]; rw [u8_ne _ 34 (z := 34) rfl]) (fun hd => ?_) (fun hd => ?_)
          · simp only [Bool.and_eq_true, decide_eq_true_eq, bne_iff_ne] at hd
            have hjl : j < s.length := by omega
            rw [byteD_at hjl] at hd
            have hj0 : (0 : Int) ≤ (j : Int) := by omega
            have v1 : IntKind.i64.wrap ((j : Int) + 1) = ((j + 1 : Nat) : Int) := by rw [IntKind.wrap_i64]; omega
            refine w_skip ?_
            refine w_block ?_
            refine w_seq ?_
            refine Wp.mono (Q := fun x fr τ => x = .normal ∧ fr 0 = txt s ∧ fr 1 = .sc (.int .i64 ((if s[j] = 92 then j + 1 else j : Nat) : Int)) ∧ fr 7 = fr2 7 ∧ τ = σ2) ?_ ?_
            · (repeat' first
    | refine w_seq ?_ | refine w_rg ?_ | refine wo_nil ?_ | refine g_skU ?_ | refine g_skT ?_ | refine g_skF ?_
    | ((first | apply s_plain | apply s_void | apply s_guard | apply g_goT | apply g_goF); · simp only [go_sem, Nat.reduceEqDiff, Nat.reduceAdd, Nat.reduceLeDiff, f1_0, g1, ba_data, ba_size, ba_toList, ba_extract, ba_append, List.toList_toArray, hj0, Int.toNat_natCast, byteD_q hjl]; (first | done | rfl))
    | ((first | apply g_T | apply g_F | apply g_gT | apply g_gF); · intro q1_; (first | intro q2_ | have q2_ := q1_); simp only [go_sem, Nat.reduceEqDiff, Nat.reduceAdd, Nat.reduceLeDiff, f1_0, g1, ba_data, ba_size, ba_toList, ba_extract, ba_append, List.toList_toArray, hj0, Int.toNat_natCast, byteD_q hjl, q1_, q2_]; (first | done | rfl))
    | fail
    )
              refine w_condB (b := s[j] == 92) (by simp only [go_sem, Nat.reduceEqDiff, Nat.reduceAdd, Nat.reduceLeDiff]; rw [u8_beq _ 92 (z := 92) rfl, byteD_at hjl]) (fun he => ?_) (fun he => ?_)
              · have he : s[j] = 92 := by simpa using he
                (repeat' first
    | refine w_seq ?_ | refine w_rg ?_ | refine wo_nil ?_ | refine g_skU ?_ | refine g_skT ?_ | refine g_skF ?_
    | ((first | apply s_plain | apply s_void | apply s_guard | apply g_goT | apply g_goF); · simp only [go_sem, Nat.reduceEqDiff, Nat.reduceAdd, Nat.reduceLeDiff, g1, v1]; (first | done | rfl))
    | ((first | apply g_T | apply g_F | apply g_gT | apply g_gF); · intro q1_; (first | intro q2_ | have q2_ := q1_); simp only [go_sem, Nat.reduceEqDiff, Nat.reduceAdd, Nat.reduceLeDiff, g1, v1, q1_, q2_]; (first | done | rfl))
    | fail
    )
                exact ⟨rfl, by simp only [go_sem, Nat.reduceEqDiff, Nat.reduceAdd, Nat.reduceLeDiff, f1_0], by simp only [go_sem, Nat.reduceEqDiff, Nat.reduceAdd, Nat.reduceLeDiff, he], by simp only [go_sem, Nat.reduceEqDiff, Nat.reduceAdd, Nat.reduceLeDiff], rfl⟩
              · have he : ¬ s[j] = 92 := by simpa using he
                (repeat' first
    | refine w_seq ?_ | refine w_rg ?_ | refine wo_nil ?_ | refine g_skU ?_ | refine g_skT ?_ | refine g_skF ?_
    | ((first | apply s_plain | apply s_void | apply s_guard | apply g_goT | apply g_goF); · simp only [go_sem, Nat.reduceEqDiff, Nat.reduceAdd, Nat.reduceLeDiff]; (first | done | rfl))
    | ((first | apply g_T | apply g_F | apply g_gT | apply g_gF); · intro q1_; (first | intro q2_ | have q2_ := q1_); simp only [go_sem, Nat.reduceEqDiff, Nat.reduceAdd, Nat.reduceLeDiff, q1_, q2_]; (first | done | rfl))
    | (apply w_condX; · simp only [go_sem, Nat.reduceEqDiff, Nat.reduceAdd, Nat.reduceLeDiff]; (first | done | rfl)); (first | refine wcd_T ?_ | refine wcd_F ?_)
    | refine w_skip ?_ | refine w_exit ?_ | refine w_ret ?_
    | fail
    )
                exact ⟨rfl, by simp only [go_sem, Nat.reduceEqDiff, Nat.reduceAdd, Nat.reduceLeDiff, f1_0], by simp only [go_sem, Nat.reduceEqDiff, Nat.reduceAdd, Nat.reduceLeDiff, g1, he], by simp only [go_sem, Nat.reduceEqDiff, Nat.reduceAdd, Nat.reduceLeDiff], rfl⟩
            · rintro x fr3 τ ⟨rfl, k0, k1, k7, rfl⟩
              rw [← k7] at hg
              generalize hjj : (if s[j] = 92 then j + 1 else j : Nat) = jj at k1
              have hjj2 : j ≤ jj ∧ jj ≤ s.length := by rw [← hjj]; split <;> omega
              have v2 : IntKind.i64.wrap ((jj : Int) + 1) = ((jj + 1 : Nat) : Int) := by rw [IntKind.wrap_i64]; omega
              (repeat' first
    | refine w_seq ?_ | refine w_rg ?_ | refine wo_nil ?_ | refine g_skU ?_ | refine g_skT ?_ | refine g_skF ?_
    | ((first | apply s_plain | apply s_void | apply s_guard | apply g_goT | apply g_goF); · simp only [go_sem, Nat.reduceEqDiff, Nat.reduceAdd, Nat.reduceLeDiff, k0, k1, ba_data, ba_size, ba_toList, ba_extract, ba_append, List.toList_toArray]; (first | done | rfl))
    | ((first | apply g_T | apply g_F | apply g_gT | apply g_gF); · intro q1_; (first | intro q2_ | have q2_ := q1_); simp only [go_sem, Nat.reduceEqDiff, Nat.reduceAdd, Nat.reduceLeDiff, k0, k1, ba_data, ba_size, ba_toList, ba_extract, ba_append, List.toList_toArray, q1_, q2_]; (first | done | rfl))
    | fail
    )
              refine w_condB (b := decide ((jj : Int) < (s.length : Int))) (by simp only [go_sem, Nat.reduceEqDiff, Nat.reduceAdd, Nat.reduceLeDiff]; first | done | rfl) (fun he => ?_) (fun he => ?_)
              · have hjl2 : jj < s.length := by simpa using he
                have hjj0 : (0 : Int) ≤ (jj : Int) := by omega
                (repeat' first
    | refine w_seq ?_ | refine w_rg ?_ | refine wo_nil ?_ | refine g_skU ?_ | refine g_skT ?_ | refine g_skF ?_
    | ((first | apply s_plain | apply s_void | apply s_guard | apply g_goT | apply g_goF); · simp only [go_sem, Nat.reduceEqDiff, Nat.reduceAdd, Nat.reduceLeDiff, k0, k1, ba_data, ba_size, ba_toList, ba_extract, ba_append, List.toList_toArray, hjj0, Int.toNat_natCast, byteD_q hjl2, splice, fillP, fillE, List.modify_zero_cons, List.replicate_succ, List.replicate_zero, List.set_cons_zero, List.drop_zero]; (first | done | rfl))
    | ((first | apply g_T | apply g_F | apply g_gT | apply g_gF); · intro q1_; (first | intro q2_ | have q2_ := q1_); simp only [go_sem, Nat.reduceEqDiff, Nat.reduceAdd, Nat.reduceLeDiff, k0, k1, ba_data, ba_size, ba_toList, ba_extract, ba_append, List.toList_toArray, hjj0, Int.toNat_natCast, byteD_q hjl2, splice, fillP, fillE, List.modify_zero_cons, List.replicate_succ, List.replicate_zero, List.set_cons_zero, List.drop_zero, q1_, q2_]; (first | done | rfl))
    | fail
    )
                refine s_gatL (os := [67]) (w := false) (xs := bp acc) (ys := bp [s[jj]]) (by simp only [go_sem, Nat.reduceEqDiff, Nat.reduceAdd, Nat.reduceLeDiff]; exact hg.new _) (by simp only [go_sem, Nat.reduceEqDiff, Nat.reduceAdd, Nat.reduceLeDiff, srcOf, elemsOf, List.drop_zero, byteD_at hjl2]; (first | done | rfl)) rfl (by simp [bp]; omega) ?_
                intro p3 σ3 hg3 kp
                rw [Bool.false_and, ← bp_app] at hg3
                (repeat' first
    | refine w_seq ?_ | refine w_rg ?_ | refine wo_nil ?_ | refine g_skU ?_ | refine g_skT ?_ | refine g_skF ?_
    | ((first | apply s_plain | apply s_void | apply s_guard | apply g_goT | apply g_goF); · simp only [go_sem, Nat.reduceEqDiff, Nat.reduceAdd, Nat.reduceLeDiff, k1, v2]; (first | done | rfl))
    | ((first | apply g_T | apply g_F | apply g_gT | apply g_gF); · intro q1_; (first | intro q2_ | have q2_ := q1_); simp only [go_sem, Nat.reduceEqDiff, Nat.reduceAdd, Nat.reduceLeDiff, k1, v2, q1_, q2_]; (first | done | rfl))
    | fail
    )
                refine ⟨_, ?_, jj + 1, acc ++ [s[jj]], rfl, by omega, by simp only [go_sem, Nat.reduceEqDiff, Nat.reduceAdd, Nat.reduceLeDiff], by simp only [go_sem, Nat.reduceEqDiff, Nat.reduceAdd, Nat.reduceLeDiff]; exact hg3, by simp; omega, ?_, by rw [kp.m _ _ (by decide) (by simp only [go_sem, Nat.reduceEqDiff, Nat.reduceAdd, Nat.reduceLeDiff]; exact hc4)]; simp only [go_sem, Nat.reduceEqDiff, Nat.reduceAdd, Nat.reduceLeDiff, hm4], by rw [kp.m _ _ (by decide) (by simp only [go_sem, Nat.reduceEqDiff, Nat.reduceAdd, Nat.reduceLeDiff]; exact hc6)]; simp only [go_sem, Nat.reduceEqDiff, Nat.reduceAdd, Nat.reduceLeDiff, hm6], Nat.lt_of_lt_of_le (by simp only [go_sem, Nat.reduceEqDiff, Nat.reduceAdd, Nat.reduceLeDiff]; exact hc4) (kp.c _), Nat.lt_of_lt_of_le (by simp only [go_sem, Nat.reduceEqDiff, Nat.reduceAdd, Nat.reduceLeDiff]; exact hc6) (kp.c _)⟩
                · omega
                · rw [hsc]
                  by_cases h92 : s[j] = 92
                  · rw [if_pos h92] at hjj
                    subst hjj
                    exact scan_esc hjl2 h92
                  · rw [if_neg h92] at hjj
                    subst hjj
                    exact scan_step hjl hd.2 h92
              · have he : ¬ jj < s.length := by simpa using he
                (repeat' first
    | refine w_seq ?_ | refine w_rg ?_ | refine wo_nil ?_ | refine g_skU ?_ | refine g_skT ?_ | refine g_skF ?_
    | ((first | apply s_plain | apply s_void | apply s_guard | apply g_goT | apply g_goF); · simp only [go_sem, Nat.reduceEqDiff, Nat.reduceAdd, Nat.reduceLeDiff, k1, v2]; (first | done | rfl))
    | ((first | apply g_T | apply g_F | apply g_gT | apply g_gF); · intro q1_; (first | intro q2_ | have q2_ := q1_); simp only [go_sem, Nat.reduceEqDiff, Nat.reduceAdd, Nat.reduceLeDiff, k1, v2, q1_, q2_]; (first | done | rfl))
    | (apply w_condX; · simp only [go_sem, Nat.reduceEqDiff, Nat.reduceAdd, Nat.reduceLeDiff, k1, v2]; (first | done | rfl)); (first | refine wcd_T ?_ | refine wcd_F ?_)
    | refine w_skip ?_ | refine w_exit ?_ | refine w_ret ?_
    | fail
    )
                refine ⟨_, ?_, jj + 1, acc, rfl, by omega, by simp only [go_sem, Nat.reduceEqDiff, Nat.reduceAdd, Nat.reduceLeDiff], by simp only [go_sem, Nat.reduceEqDiff, Nat.reduceAdd, Nat.reduceLeDiff]; exact hg, by omega, ?_, hm4, hm6, hc4, hc6⟩
                · omega
                · rw [hsc]
                  have h92 : s[j] = 92 := by
                    by_cases h : s[j] = 92
                    · exact h
                    · rw [if_neg h] at hjj; omega
                  rw [scan_last hjl (by rw [if_pos h92] at hjj; omega) hd.2, scan_nil (by omega)]
          · refine w_exit ?_
            try simp only [if_true]
            (repeat' first
    | refine w_seq ?_ | refine w_rg ?_ | refine wo_nil ?_ | refine g_skU ?_ | refine g_skT ?_ | refine g_skF ?_
    | ((first | apply s_plain | apply s_void | apply s_guard | apply g_goT | apply g_goF); · simp only [go_sem, Nat.reduceEqDiff, Nat.reduceAdd, Nat.reduceLeDiff, f1_0, g1, ba_data, ba_size, ba_toList, ba_extract, ba_append, List.toList_toArray]; (first | done | rfl))
    | ((first | apply g_T | apply g_F | apply g_gT | apply g_gF); · intro q1_; (first | intro q2_ | have q2_ := q1_); simp only [go_sem, Nat.reduceEqDiff, Nat.reduceAdd, Nat.reduceLeDiff, f1_0, g1, ba_data, ba_size, ba_toList, ba_extract, ba_append, List.toList_toArray, q1_, q2_]; (first | done | rfl))
    | fail
    )
            refine w_condB (b := decide ((j : Int) ≥ (s.length : Int))) (by simp only [go_sem, Nat.reduceEqDiff, Nat.reduceAdd, Nat.reduceLeDiff]; first | done | rfl) (fun he => ?_) (fun he => ?_)
            · have he : s.length ≤ j := by simpa using he
              have hb : oneB s a = .agg [txt [], txt [], .sc (.int .i64 (-1))] := by
                unfold oneB
                rw [hone, hsc, scan_nil he]; rfl
              (repeat' first
    | refine w_seq ?_ | refine w_rg ?_ | refine wo_nil ?_ | refine g_skU ?_ | refine g_skT ?_ | refine g_skF ?_
    | ((first | apply s_plain | apply s_void | apply s_guard | apply g_goT | apply g_goF); · simp only [go_sem, Nat.reduceEqDiff, Nat.reduceAdd, Nat.reduceLeDiff, y4, hm4, splice, fillP, fillE, List.modify_zero_cons, List.replicate_succ, List.replicate_zero, List.set_cons_zero, List.drop_zero]; (first | done | rfl))
    | ((first | apply g_T | apply g_F | apply g_gT | apply g_gF); · intro q1_; (first | intro q2_ | have q2_ := q1_); simp only [go_sem, Nat.reduceEqDiff, Nat.reduceAdd, Nat.reduceLeDiff, y4, hm4, splice, fillP, fillE, List.modify_zero_cons, List.replicate_succ, List.replicate_zero, List.set_cons_zero, List.drop_zero, q1_, q2_]; (first | done | rfl))
    | (apply w_condX; · simp only [go_sem, Nat.reduceEqDiff, Nat.reduceAdd, Nat.reduceLeDiff, y4, hm4, splice, fillP, fillE, List.modify_zero_cons, List.replicate_succ, List.replicate_zero, List.set_cons_zero, List.drop_zero]; (first | done | rfl)); (first | refine wcd_T ?_ | refine wcd_F ?_)
    | refine w_skip ?_ | refine w_exit ?_ | refine w_ret ?_
    | fail
    )
              exact ⟨by first | exact .inr rfl | exact .inr trivial | exact .inl rfl, by simp only [go_sem, Nat.reduceEqDiff, Nat.reduceAdd, Nat.reduceLeDiff, retOf, resOf, hb, List.modify_zero_cons, y4]; first | done | rfl⟩
            · have he : j < s.length := by simpa using he
              have h34 : s[j] = 34 := by
                simp only [Bool.and_eq_false_iff, decide_eq_false_iff_not, bne_eq_false_iff_eq] at hd
                rcases hd with hd | hd
                · omega
                · rw [← byteD_at he]; exact hd
              have v1 : IntKind.i64.wrap ((j : Int) + 1) = ((j + 1 : Nat) : Int) := by rw [IntKind.wrap_i64]; omega
              have hb : oneB s a = .agg [txt n, txt acc, .sc (.int .i64 ((j + 1 : Nat) : Int))] := by
                unfold oneB
                rw [hone, hsc, scan_end he h34]
                simp only [Option.map_some, List.length_drop]
                rw [show s.length - (s.length - (j + 1)) = j + 1 by omega]
              (repeat' first
    | refine w_seq ?_ | refine w_rg ?_ | refine wo_nil ?_ | refine g_skU ?_ | refine g_skT ?_ | refine g_skF ?_
    | ((first | apply s_plain | apply s_void | apply s_guard | apply g_goT | apply g_goF); · simp only [go_sem, Nat.reduceEqDiff, Nat.reduceAdd, Nat.reduceLeDiff]; (first | done | rfl))
    | ((first | apply g_T | apply g_F | apply g_gT | apply g_gF); · intro q1_; (first | intro q2_ | have q2_ := q1_); simp only [go_sem, Nat.reduceEqDiff, Nat.reduceAdd, Nat.reduceLeDiff, q1_, q2_]; (first | done | rfl))
    | (apply w_condX; · simp only [go_sem, Nat.reduceEqDiff, Nat.reduceAdd, Nat.reduceLeDiff]; (first | done | rfl)); (first | refine wcd_T ?_ | refine wcd_F ?_)
    | refine w_skip ?_ | refine w_exit ?_ | refine w_ret ?_
    | fail
    )
              refine s_plain (v := txt acc) (σ' := σ2) (by simp only [go_sem, Nat.reduceEqDiff, Nat.reduceAdd, Nat.reduceLeDiff, gat_elems hg, bp_back]) ?_
              (repeat' first
    | refine w_seq ?_ | refine w_rg ?_ | refine wo_nil ?_ | refine g_skU ?_ | refine g_skT ?_ | refine g_skF ?_
    | ((first | apply s_plain | apply s_void | apply s_guard | apply g_goT | apply g_goF); · simp only [go_sem, Nat.reduceEqDiff, Nat.reduceAdd, Nat.reduceLeDiff, y4, y6, g1, v1, hm4, hm6, splice, fillP, fillE, List.modify_zero_cons, List.replicate_succ, List.replicate_zero, List.set_cons_zero, List.drop_zero]; (first | done | rfl))
    | ((first | apply g_T | apply g_F | apply g_gT | apply g_gF); · intro q1_; (first | intro q2_ | have q2_ := q1_); simp only [go_sem, Nat.reduceEqDiff, Nat.reduceAdd, Nat.reduceLeDiff, y4, y6, g1, v1, hm4, hm6, splice, fillP, fillE, List.modify_zero_cons, List.replicate_succ, List.replicate_zero, List.set_cons_zero, List.drop_zero, q1_, q2_]; (first | done | rfl))
    | (apply w_condX; · simp only [go_sem, Nat.reduceEqDiff, Nat.reduceAdd, Nat.reduceLeDiff, y4, y6, g1, v1, hm4, hm6, splice, fillP, fillE, List.modify_zero_cons, List.replicate_succ, List.replicate_zero, List.set_cons_zero, List.drop_zero]; (first | done | rfl)); (first | refine wcd_T ?_ | refine wcd_F ?_)
    | refine w_skip ?_ | refine w_exit ?_ | refine w_ret ?_
    | fail
    )
              exact ⟨by first | exact .inr rfl | exact .inr trivial | exact .inl rfl, by simp only [go_sem, Nat.reduceEqDiff, Nat.reduceAdd, Nat.reduceLeDiff, retOf, resOf, hb, List.modify_zero_cons, y4]; first | done | rfl⟩
        · exact ⟨i + 2, [], rfl, by omega, by simp only [go_sem, Nat.reduceEqDiff, Nat.reduceAdd, Nat.reduceLeDiff], by simp only [go_sem, Nat.reduceEqDiff, Nat.reduceAdd, Nat.reduceLeDiff]; exact .em, by simp, rfl, by simp only [go_sem, Nat.reduceEqDiff, Nat.reduceAdd, Nat.reduceLeDiff, List.modify_zero_cons], by simp only [go_sem, Nat.reduceEqDiff, Nat.reduceAdd, Nat.reduceLeDiff, List.modify_zero_cons], by simp only [go_sem, Nat.reduceEqDiff, Nat.reduceAdd, Nat.reduceLeDiff], by simp only [go_sem, Nat.reduceEqDiff, Nat.reduceAdd, Nat.reduceLeDiff]⟩
  · exact ⟨a, rfl, Nat.le_refl _, ha, by simp only [go_sem, Nat.reduceEqDiff, Nat.reduceAdd, Nat.reduceLeDiff], by omega, by simp only [go_sem, Nat.reduceEqDiff, Nat.reduceAdd, Nat.reduceLeDiff]⟩
end

end Go.Proofs.YtckcgppnppiccaaGreatDoorPv
