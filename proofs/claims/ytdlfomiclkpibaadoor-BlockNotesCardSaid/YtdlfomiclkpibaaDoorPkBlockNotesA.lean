/-
Own texts of the proof, merged: part 1.
-/
import Derived.Test.YtdlfomiclkpibaaDoorPvY
import Derived.Test.YtdlfomiclkpibaaDoorPvPc
import Derived.Test.YtdlfomiclkpibaaDoorPvU
import Derived.Lib.CutLaws
import Derived.Lib.IndexLaws
namespace Go.Proofs.YtdlfomiclkpibaaDoorPv
open Go
set_option linter.unusedSimpArgs false
set_option linter.unusedVariables false
set_option maxHeartbeats 4000000
attribute [local go_sem ↓] e_mv e_pick e_bin e_eqs e_beq e_un e_cvi e_str e_s2b e_b2s e_box e_build e_bsl e_ld e_st e_nck e_mkf e_slcS e_slcL e_fa e_fld e_ia e_iaa e_ix e_ixa e_ext e_lenS e_lenL e_mnmx e_app e_appb e_bbx e_msl e_clr e_call e_callv pa_t pa_c pa_f slcSP_str hiOf_some hiOf_none loOf_some loOf_none set_eq set_ne
attribute [local go_sem] pv pv1 simple frOf_0 frOf_1 frOf_2 frOf_3 frOf_4 frOf_5 ne_eq not_false_eq_true if_true Bool.false_eq_true if_false pbin punary Option.map_some Option.bind_some pick_and pick_or opt_true Bool.true_and Bool.and_self Bool.and_true Bool.true_or Bool.false_or Bool.not_true Bool.not_false callE pcall_eq List.map_cons List.map_nil List.append_nil List.nil_append List.cons_append mapM_cons' mapM_nil' dep_eq fz_sc fz_sl fz_em fz_fn fz_fp fz_agg fz_tu fz_bx fz_ob Nat.lt_irrefl Nat.zero_lt_one Nat.lt_add_one flat clL cl Bool.or_true okc_sc okc_em okc_sl okc_ob okc_bx okc_fp okc_fn okc_agg okc_ifc cells_agg cells_sc cells_sl cells_em cells_ob cells_fn cells_bx cells_fp List.length_cons List.length_nil Nat.zero_add and_self true_and and_true new_m new_c put_m put_c nil_m nil_c deref List.getElem?_cons_zero List.getElem?_cons_succ List.drop_zero List.drop_succ_cons List.take_succ_cons List.take_zero Nat.le_refl false_and and_false decide_true decide_false lenP_em lenP_nil lenP_sl lenP_ob Int.ofNat_zero
set_option maxRecDepth 8000
/-- slices.IndexFunc[[]byte,byte] -/
def d85 : Def := (.code 2 [.tmp 4] (.seq (.rg false [⟨.some 4, .none, .mv (.c (.int .i64 0))⟩]) (.seq (.seq (.rg false [⟨.some 6, .none, .mv (.t 0)⟩, ⟨.some 7, .none, .lenL (.t 6)⟩, ⟨.some 8, .none, .mv (.c (.int .i64 0))⟩]) (.block 0 (.loop (.seq (.rg false [⟨.some 9, .none, .bin .lss (.t 8) (.t 7)⟩]) (.seq (.cond (.t 9) .skip (.exit 0)) (.seq (.block 1 (.seq (.rg false [⟨.some 10, .none, .mv (.t 8)⟩, ⟨.some 5, .none, .mv (.t 10)⟩]) (.seq (.rg false [⟨.some 11, .none, .mv (.t 1)⟩, ⟨.some 12, .none, .mv (.t 0)⟩, ⟨.some 13, .none, .mv (.t 5)⟩, ⟨.some 14, .none, .ia 1 (.t 12) (.t 13)⟩, ⟨.some 15, .none, .ld .none (.t 14)⟩, ⟨.some 16, .none, .callv (.t 11) .pure [.t 15]⟩]) (.cond (.t 16) (.seq (.rg false [⟨.some 17, .none, .mv (.t 5)⟩, ⟨.some 4, .none, .mv (.t 17)⟩]) .ret) .skip)))) (.rg false [⟨.some 18, .none, .bin .add (.t 8) (.c (.int .i64 1))⟩, ⟨.some 8, .none, .mv (.t 18)⟩]))))))) (.seq (.rg false [⟨.some 4, .none, .mv (.c (.int .i64 (-1)))⟩]) .ret))))
/-- slices.ContainsFunc[[]byte,byte] -/
def d67 : Def := (.code 2 [.tmp 4] (.seq (.rg false [⟨.some 4, .none, .mv (.c (.bool false))⟩]) (.seq (.rg false [⟨.some 5, .none, .mv (.t 0)⟩, ⟨.some 6, .none, .mv (.t 1)⟩, ⟨.some 7, .none, .call 85 .pure [.t 5, .t 6]⟩, ⟨.some 8, .none, .bin .geq (.t 7) (.c (.int .i64 0))⟩, ⟨.some 4, .none, .mv (.t 8)⟩]) .ret)))
/-- transhipment/block.word$1 -/
def d66 : Def := (.code 1 [.tmp 2] (.seq (.rg false [⟨.some 2, .none, .mv (.c (.bool false))⟩]) (.seq (.rg false [⟨.some 3, .none, .mv (.t 0)⟩, ⟨.some 4, .none, .bin .lss (.t 3) (.c (.int .u8 97))⟩, ⟨.some 5, .none, .mv (.t 4)⟩, ⟨.some 6, .some (5, false), .mv (.t 0)⟩, ⟨.some 7, .some (5, false), .bin .gtr (.t 6) (.c (.int .u8 122))⟩, ⟨.some 8, .none, .pick (.t 5) (.c (.bool true)) (.t 7)⟩, ⟨.some 9, .none, .mv (.t 8)⟩, ⟨.some 10, .some (9, true), .mv (.t 0)⟩, ⟨.some 11, .some (9, true), .bin .lss (.t 10) (.c (.int .u8 48))⟩, ⟨.some 12, .some (9, true), .mv (.t 11)⟩, ⟨.some 13, .some (12, false), .mv (.t 0)⟩, ⟨.some 14, .some (12, false), .bin .gtr (.t 13) (.c (.int .u8 57))⟩, ⟨.some 15, .some (9, true), .pick (.t 12) (.c (.bool true)) (.t 14)⟩, ⟨.some 16, .none, .pick (.t 9) (.t 15) (.c (.bool false))⟩, ⟨.some 17, .none, .mv (.t 16)⟩, ⟨.some 18, .some (17, true), .mv (.t 0)⟩, ⟨.some 19, .some (17, true), .bin .neq (.t 18) (.c (.int .u8 95))⟩, ⟨.some 20, .none, .pick (.t 17) (.t 19) (.c (.bool false))⟩, ⟨.some 2, .none, .mv (.t 20)⟩]) .ret)))
/-- transhipment/block.word -/
def d49 : Def := (.code 1 [.tmp 2] (.seq (.rg false [⟨.some 2, .none, .mv (.c (.bool false))⟩]) (.seq (.rg false [⟨.some 3, .none, .mv (.f 66)⟩]) (.seq (.rg false [⟨.some 4, .none, .mv (.t 0)⟩, ⟨.some 5, .none, .bin .neq (.t 4) (.c (.string ⟨#[]⟩))⟩, ⟨.some 6, .none, .mv (.t 5)⟩, ⟨.some 7, .some (6, true), .mv (.t 0)⟩, ⟨.some 8, .some (6, true), .lenS (.t 7)⟩, ⟨.some 9, .some (6, true), .bin .leq (.t 8) (.c (.int .i64 64))⟩, ⟨.some 10, .none, .pick (.t 6) (.t 9) (.c (.bool false))⟩, ⟨.some 11, .none, .mv (.t 10)⟩, ⟨.some 12, .some (11, true), .mv (.t 0)⟩, ⟨.some 13, .some (11, true), .s2b (.t 12)⟩, ⟨.some 14, .some (11, true), .mv (.t 3)⟩, ⟨.some 15, .some (11, true), .call 67 .pure [.t 13, .t 14]⟩, ⟨.some 16, .some (11, true), .un .not (.t 15)⟩, ⟨.some 17, .none, .pick (.t 11) (.t 16) (.c (.bool false))⟩, ⟨.some 2, .none, .mv (.t 17)⟩]) .ret))))
/-- transhipment/label.letter -/
def d138 : Def := (.code 1 [.tmp 2] (.seq (.rg false [⟨.some 2, .none, .mv (.c (.bool false))⟩]) (.seq (.rg false [⟨.some 3, .none, .mv (.t 0)⟩, ⟨.some 4, .none, .bin .geq (.t 3) (.c (.int .u8 97))⟩, ⟨.some 5, .none, .mv (.t 4)⟩, ⟨.some 6, .some (5, true), .mv (.t 0)⟩, ⟨.some 7, .some (5, true), .bin .leq (.t 6) (.c (.int .u8 122))⟩, ⟨.some 8, .none, .pick (.t 5) (.t 7) (.c (.bool false))⟩, ⟨.some 9, .none, .mv (.t 8)⟩, ⟨.some 10, .some (9, false), .mv (.t 0)⟩, ⟨.some 11, .some (9, false), .bin .geq (.t 10) (.c (.int .u8 65))⟩, ⟨.some 12, .some (9, false), .mv (.t 11)⟩, ⟨.some 13, .some (12, true), .mv (.t 0)⟩, ⟨.some 14, .some (12, true), .bin .leq (.t 13) (.c (.int .u8 90))⟩, ⟨.some 15, .some (9, false), .pick (.t 12) (.t 14) (.c (.bool false))⟩, ⟨.some 16, .none, .pick (.t 9) (.c (.bool true)) (.t 15)⟩, ⟨.some 17, .none, .mv (.t 16)⟩, ⟨.some 18, .some (17, false), .mv (.t 0)⟩, ⟨.some 19, .some (17, false), .bin .eql (.t 18) (.c (.int .u8 95))⟩, ⟨.some 20, .none, .pick (.t 17) (.c (.bool true)) (.t 19)⟩, ⟨.some 2, .none, .mv (.t 20)⟩]) .ret)))
/-- transhipment/label.value$1 -/
def d139 : Def := (.code 1 [.tmp 2] (.seq (.rg false [⟨.some 2, .none, .mv (.c (.bool false))⟩]) (.seq (.rg false [⟨.some 3, .none, .mv (.t 0)⟩, ⟨.some 4, .none, .bin .lss (.t 3) (.c (.int .u8 32))⟩, ⟨.some 5, .none, .mv (.t 4)⟩, ⟨.some 6, .some (5, false), .mv (.t 0)⟩, ⟨.some 7, .some (5, false), .bin .gtr (.t 6) (.c (.int .u8 126))⟩, ⟨.some 8, .none, .pick (.t 5) (.c (.bool true)) (.t 7)⟩, ⟨.some 2, .none, .mv (.t 8)⟩]) .ret)))
/-- transhipment/label.name -/
def d130 : Def := (.code 1 [.tmp 2] (.seq (.rg false [⟨.some 2, .none, .mv (.c (.bool false))⟩]) (.seq (.seq (.rg false [⟨.some 5, .none, .mv (.t 0)⟩, ⟨.some 6, .none, .lenS (.t 5)⟩, ⟨.some 7, .none, .mv (.c (.int .i64 0))⟩]) (.block 0 (.loop (.seq (.rg false [⟨.some 8, .none, .bin .lss (.t 7) (.t 6)⟩]) (.seq (.cond (.t 8) .skip (.exit 0)) (.seq (.block 1 (.seq (.rg false [⟨.some 9, .none, .mv (.t 7)⟩, ⟨.some 3, .none, .mv (.t 9)⟩]) (.seq (.rg false [⟨.some 10, .none, .mv (.t 0)⟩, ⟨.some 11, .none, .mv (.t 3)⟩, ⟨.some 12, .none, .ix (.t 10) (.t 11)⟩, ⟨.some 4, .none, .mv (.t 12)⟩]) (.seq (.rg false [⟨.some 13, .none, .mv (.t 4)⟩, ⟨.some 14, .none, .call 138 .pure [.t 13]⟩, ⟨.some 15, .none, .un .not (.t 14)⟩, ⟨.some 16, .none, .mv (.t 15)⟩, ⟨.some 17, .some (16, true), .mv (.t 3)⟩, ⟨.some 18, .some (16, true), .bin .eql (.t 17) (.c (.int .i64 0))⟩, ⟨.some 19, .some (16, true), .mv (.t 18)⟩, ⟨.some 20, .some (19, false), .mv (.t 4)⟩, ⟨.some 21, .some (19, false), .bin .lss (.t 20) (.c (.int .u8 48))⟩, ⟨.some 22, .some (16, true), .pick (.t 19) (.c (.bool true)) (.t 21)⟩, ⟨.some 23, .some (16, true), .mv (.t 22)⟩, ⟨.some 24, .some (23, false), .mv (.t 4)⟩, ⟨.some 25, .some (23, false), .bin .gtr (.t 24) (.c (.int .u8 57))⟩, ⟨.some 26, .some (16, true), .pick (.t 23) (.c (.bool true)) (.t 25)⟩, ⟨.some 27, .none, .pick (.t 16) (.t 26) (.c (.bool false))⟩]) (.cond (.t 27) (.seq (.rg false [⟨.some 2, .none, .mv (.c (.bool false))⟩]) .ret) .skip))))) (.rg false [⟨.some 28, .none, .bin .add (.t 7) (.c (.int .i64 1))⟩, ⟨.some 7, .none, .mv (.t 28)⟩]))))))) (.seq (.rg false [⟨.some 29, .none, .mv (.t 0)⟩, ⟨.some 30, .none, .bin .neq (.t 29) (.c (.string ⟨#[]⟩))⟩, ⟨.some 31, .none, .mv (.t 30)⟩, ⟨.some 32, .some (31, true), .mv (.t 0)⟩, ⟨.some 33, .some (31, true), .lenS (.t 32)⟩, ⟨.some 34, .some (31, true), .bin .leq (.t 33) (.c (.int .i64 64))⟩, ⟨.some 35, .none, .pick (.t 31) (.t 34) (.c (.bool false))⟩, ⟨.some 2, .none, .mv (.t 35)⟩]) .ret))))
/-- transhipment/label.value -/
def d131 : Def := (.code 1 [.tmp 2] (.seq (.rg false [⟨.some 2, .none, .mv (.c (.bool false))⟩]) (.seq (.rg false [⟨.some 3, .none, .mv (.t 0)⟩, ⟨.some 4, .none, .bin .neq (.t 3) (.c (.string ⟨#[]⟩))⟩, ⟨.some 5, .none, .mv (.t 4)⟩, ⟨.some 6, .some (5, true), .mv (.t 0)⟩, ⟨.some 7, .some (5, true), .lenS (.t 6)⟩, ⟨.some 8, .some (5, true), .bin .leq (.t 7) (.c (.int .i64 64))⟩, ⟨.some 9, .none, .pick (.t 5) (.t 8) (.c (.bool false))⟩, ⟨.some 10, .none, .mv (.t 9)⟩, ⟨.some 11, .some (10, true), .mv (.t 0)⟩, ⟨.some 12, .some (10, true), .s2b (.t 11)⟩, ⟨.some 13, .some (10, true), .call 67 .pure [.t 12, .f 139]⟩, ⟨.some 14, .some (10, true), .un .not (.t 13)⟩, ⟨.some 15, .none, .pick (.t 10) (.t 14) (.c (.bool false))⟩, ⟨.some 2, .none, .mv (.t 15)⟩]) .ret)))
/-- transhipment/rules.time -/
def d112 : Def := (.code 1 [.tmp 2] (.seq (.rg false [⟨.some 2, .none, .mv (.c (.bool false))⟩]) (.seq (.rg false [⟨.some 3, .none, .mv (.t 0)⟩, ⟨.some 4, .none, .bin .geq (.t 3) (.c (.int .i64 0))⟩, ⟨.some 5, .none, .mv (.t 4)⟩, ⟨.some 6, .some (5, true), .mv (.t 0)⟩, ⟨.some 7, .some (5, true), .bin .leq (.t 6) (.c (.int .i64 1099511627776))⟩, ⟨.some 8, .none, .pick (.t 5) (.t 7) (.c (.bool false))⟩, ⟨.some 2, .none, .mv (.t 8)⟩]) .ret)))
def la : List (Nat × Def) := [(85, d85), (67, d67), (66, d66), (49, d49), (138, d138), (139, d139), (130, d130), (131, d131), (112, d112)]
def la0 : List (Nat × Def) := [(85, d85), (67, d67), (138, d138), (139, d139), (130, d130), (131, d131)]
def law : List (Nat × Def) := [(85, d85), (67, d67), (66, d66), (49, d49)]
def lax : List (Nat × Def) := [(85, d85), (67, d67)]
def Has (l : List (Nat × Def)) (env : Nat → Option Def) : Prop := ∀ p ∈ l, env p.1 = some p.2
section
variable {env : Nat → Option Def} {fr : Fr} {σ : St} {K : Fr → St → Prop}
theorem la_la0 (H : Has la env) : Has la0 env := fun p hp => H p (by
  simp only [la0, List.mem_cons, List.mem_nil_iff, or_false] at hp
  rcases hp with rfl | rfl | rfl | rfl | rfl | rfl <;> simp [la])
theorem la_law (H : Has la env) : Has law env := fun p hp => H p (by
  simp only [law, List.mem_cons, List.mem_nil_iff, or_false] at hp
  rcases hp with rfl | rfl | rfl | rfl <;> simp [la])
theorem law_lax (H : Has law env) : Has lax env := fun p hp => H p (by
  simp only [lax, List.mem_cons, List.mem_nil_iff, or_false] at hp
  rcases hp with rfl | rfl <;> simp [law])
theorem la0_lax (H : Has la0 env) : Has lax env := fun p hp => H p (by
  simp only [lax, List.mem_cons, List.mem_nil_iff, or_false] at hp
  rcases hp with rfl | rfl <;> simp [la0])
theorem a112 (H : Has la env) (n : Int) : AV env 112 [.sc (.int .i64 n)] = some (.sc (.bool (decide (n ≥ 0) && decide (n ≤ 1099511627776)))) := by
  refine AV_wp (H (112, d112) (by simp [la])) rfl ?_
  (repeat' first
    | refine w_seq ?_ | refine w_rg ?_ | refine wo_nil ?_ | refine g_skU ?_
    | ((first | apply s_plain | apply s_void | apply s_guard); · simp only [go_sem, Nat.reduceEqDiff, Nat.reduceAdd, Nat.reduceLeDiff]; (first | done | rfl))
    | ((first | apply g_T | apply g_F); · intro hb; simp only [go_sem, Nat.reduceEqDiff, Nat.reduceAdd, Nat.reduceLeDiff, hb]; (first | done | rfl))
    | ((first | apply g_gT | apply g_gF); · intro hb hc; simp only [go_sem, Nat.reduceEqDiff, Nat.reduceAdd, Nat.reduceLeDiff, hb, hc]; (first | done | rfl))
    | refine g_skT ?_ | refine g_skF ?_
    | ((first | apply g_goT | apply g_goF); · simp only [go_sem, Nat.reduceEqDiff, Nat.reduceAdd, Nat.reduceLeDiff]; (first | done | rfl))
    | (refine w_condT ?_ ?_; · simp only [go_sem, Nat.reduceEqDiff, Nat.reduceAdd, Nat.reduceLeDiff]; (first | done | rfl))
    | (refine w_condF ?_ ?_; · simp only [go_sem, Nat.reduceEqDiff, Nat.reduceAdd, Nat.reduceLeDiff]; (first | done | rfl))
    | refine w_skip ?_ | refine w_exit ?_ | refine w_ret ?_
    | fail
    )
  exact ⟨.inr rfl, by simp only [go_sem, Nat.reduceEqDiff, Nat.reduceAdd, Nat.reduceLeDiff, retOf, resOf]⟩
theorem a66 (H : Has law env) (c : Int) : AV env 66 [.sc (.int .u8 c)] = some (.sc (.bool ((decide (c < 97) || decide (c > 122)) && (decide (c < 48) || decide (c > 57)) && (c != 95)))) := by
  refine AV_wp (H (66, d66) (by simp [law])) rfl ?_
  (repeat' first
    | refine w_seq ?_ | refine w_rg ?_ | refine wo_nil ?_ | refine g_skU ?_
    | ((first | apply s_plain | apply s_void | apply s_guard); · simp only [go_sem, Nat.reduceEqDiff, Nat.reduceAdd, Nat.reduceLeDiff]; (first | done | rfl))
    | ((first | apply g_T | apply g_F); · intro hb; simp only [go_sem, Nat.reduceEqDiff, Nat.reduceAdd, Nat.reduceLeDiff, hb]; (first | done | rfl))
    | ((first | apply g_gT | apply g_gF); · intro hb hc; simp only [go_sem, Nat.reduceEqDiff, Nat.reduceAdd, Nat.reduceLeDiff, hb, hc]; (first | done | rfl))
    | refine g_skT ?_ | refine g_skF ?_
    | ((first | apply g_goT | apply g_goF); · simp only [go_sem, Nat.reduceEqDiff, Nat.reduceAdd, Nat.reduceLeDiff]; (first | done | rfl))
    | (refine w_condT ?_ ?_; · simp only [go_sem, Nat.reduceEqDiff, Nat.reduceAdd, Nat.reduceLeDiff]; (first | done | rfl))
    | (refine w_condF ?_ ?_; · simp only [go_sem, Nat.reduceEqDiff, Nat.reduceAdd, Nat.reduceLeDiff]; (first | done | rfl))
    | refine w_skip ?_ | refine w_exit ?_ | refine w_ret ?_
    | fail
    )
  exact ⟨.inr rfl, by simp only [go_sem, Nat.reduceEqDiff, Nat.reduceAdd, Nat.reduceLeDiff, retOf, resOf]⟩
theorem a138 (H : Has la0 env) (c : Int) : AV env 138 [.sc (.int .u8 c)] = some (.sc (.bool ((decide (c ≥ 97) && decide (c ≤ 122)) || (decide (c ≥ 65) && decide (c ≤ 90)) || (c == 95)))) := by
  refine AV_wp (H (138, d138) (by simp [la0])) rfl ?_
  (repeat' first
    | refine w_seq ?_ | refine w_rg ?_ | refine wo_nil ?_ | refine g_skU ?_
    | ((first | apply s_plain | apply s_void | apply s_guard); · simp only [go_sem, Nat.reduceEqDiff, Nat.reduceAdd, Nat.reduceLeDiff]; (first | done | rfl))
    | ((first | apply g_T | apply g_F); · intro hb; simp only [go_sem, Nat.reduceEqDiff, Nat.reduceAdd, Nat.reduceLeDiff, hb]; (first | done | rfl))
    | ((first | apply g_gT | apply g_gF); · intro hb hc; simp only [go_sem, Nat.reduceEqDiff, Nat.reduceAdd, Nat.reduceLeDiff, hb, hc]; (first | done | rfl))
    | refine g_skT ?_ | refine g_skF ?_
    | ((first | apply g_goT | apply g_goF); · simp only [go_sem, Nat.reduceEqDiff, Nat.reduceAdd, Nat.reduceLeDiff]; (first | done | rfl))
    | (refine w_condT ?_ ?_; · simp only [go_sem, Nat.reduceEqDiff, Nat.reduceAdd, Nat.reduceLeDiff]; (first | done | rfl))
    | (refine w_condF ?_ ?_; · simp only [go_sem, Nat.reduceEqDiff, Nat.reduceAdd, Nat.reduceLeDiff]; (first | done | rfl))
    | refine w_skip ?_ | refine w_exit ?_ | refine w_ret ?_
    | fail
    )
  exact ⟨.inr rfl, by simp only [go_sem, Nat.reduceEqDiff, Nat.reduceAdd, Nat.reduceLeDiff, retOf, resOf]⟩
theorem a139 (H : Has la0 env) (c : Int) : AV env 139 [.sc (.int .u8 c)] = some (.sc (.bool (decide (c < 32) || decide (c > 126)))) := by
  refine AV_wp (H (139, d139) (by simp [la0])) rfl ?_
  (repeat' first
    | refine w_seq ?_ | refine w_rg ?_ | refine wo_nil ?_ | refine g_skU ?_
    | ((first | apply s_plain | apply s_void | apply s_guard); · simp only [go_sem, Nat.reduceEqDiff, Nat.reduceAdd, Nat.reduceLeDiff]; (first | done | rfl))
    | ((first | apply g_T | apply g_F); · intro hb; simp only [go_sem, Nat.reduceEqDiff, Nat.reduceAdd, Nat.reduceLeDiff, hb]; (first | done | rfl))
    | ((first | apply g_gT | apply g_gF); · intro hb hc; simp only [go_sem, Nat.reduceEqDiff, Nat.reduceAdd, Nat.reduceLeDiff, hb, hc]; (first | done | rfl))
    | refine g_skT ?_ | refine g_skF ?_
    | ((first | apply g_goT | apply g_goF); · simp only [go_sem, Nat.reduceEqDiff, Nat.reduceAdd, Nat.reduceLeDiff]; (first | done | rfl))
    | (refine w_condT ?_ ?_; · simp only [go_sem, Nat.reduceEqDiff, Nat.reduceAdd, Nat.reduceLeDiff]; (first | done | rfl))
    | (refine w_condF ?_ ?_; · simp only [go_sem, Nat.reduceEqDiff, Nat.reduceAdd, Nat.reduceLeDiff]; (first | done | rfl))
    | refine w_skip ?_ | refine w_exit ?_ | refine w_ret ?_
    | fail
    )
  exact ⟨.inr rfl, by simp only [go_sem, Nat.reduceEqDiff, Nat.reduceAdd, Nat.reduceLeDiff, retOf, resOf]⟩
/-- The first place at which something holds, or -1. -/
def found (p : Nat → Bool) (n : Nat) : Int := match (List.range n).find? p with | some i => i | none => -1
theorem found_hit {p : Nat → Bool} {n i : Nat} (hi : i < n) (h : ∀ j, j < i → p j = false) (hp : p i = true) : found p n = i := by
  unfold found
  have : (List.range n).find? p = some i := by
    rw [List.find?_range_eq_some]
    exact ⟨hp, by simpa using hi, fun j hj => by simpa using h j hj⟩
  rw [this]
theorem found_none {p : Nat → Bool} {n : Nat} (h : ∀ j, j < n → p j = false) : found p n = -1 := by
  unfold found
  have : (List.range n).find? p = none := by
    rw [List.find?_range_eq_none]
    exact fun j hj => by simpa using h j hj
  rw [this]
theorem a85g {k0 : Nat} (hk0 : env k0 = some d85) {xs : List PV} {k : Nat} {a b : List PV} {p : Nat → Bool} (hn : xs.length ≤ 9223372036854775807) (h1 : ∀ (i : Nat) e, xs[i]? = some e → cellsOf e = [e])
    (hz : ∀ (i : Nat) e, xs[i]? = some e → ∀ σ, (a ++ [e] ++ b).mapM (fz σ 12) = some (a ++ [e] ++ b)) (hp : ∀ (i : Nat) e, xs[i]? = some e → AV env k (a ++ [e] ++ b) = some (.sc (.bool (p i)))) :
    AV env k0 [.sl xs, .fn k a b] = some (.sc (.int .i64 (found p xs.length))) := by
  refine AV_wp hk0 rfl ?_
  (repeat' first
    | refine w_seq ?_ | refine w_rg ?_ | refine wo_nil ?_ | refine g_skU ?_
    | ((first | apply s_plain | apply s_void | apply s_guard); · simp only [go_sem, Nat.reduceEqDiff, Nat.reduceAdd, Nat.reduceLeDiff]; (first | done | rfl))
    | ((first | apply g_T | apply g_F); · intro hb; simp only [go_sem, Nat.reduceEqDiff, Nat.reduceAdd, Nat.reduceLeDiff, hb]; (first | done | rfl))
    | ((first | apply g_gT | apply g_gF); · intro hb hc; simp only [go_sem, Nat.reduceEqDiff, Nat.reduceAdd, Nat.reduceLeDiff, hb, hc]; (first | done | rfl))
    | refine g_skT ?_ | refine g_skF ?_
    | ((first | apply g_goT | apply g_goF); · simp only [go_sem, Nat.reduceEqDiff, Nat.reduceAdd, Nat.reduceLeDiff]; (first | done | rfl))
    | fail
    )
  refine w_block (w_range xs.length hn (fun i fr σ => fr 0 = .sl xs ∧ fr 1 = .fn k a b ∧ ∀ j, j < i → p j = false) (by decide) ?_ ?_ ?_ _ _ ?_ ?_ ?_)
  · rintro i fr σ v ⟨h0, h1, h2⟩
    refine ⟨⟨?_, ?_, h2⟩, ⟨?_, ?_, h2⟩, ⟨?_, ?_, h2⟩⟩ <;> simp only [go_sem, Nat.reduceEqDiff, Nat.reduceAdd, Nat.reduceLeDiff, h0, h1]
  · rintro i fr σ hi ⟨h0, h2, h3⟩ hti htn
    have hx := List.getElem?_eq_getElem hi
    have e1 : (0 : Int) ≤ (i : Int) ∧ (i : Int) < (xs.length : Int) := by omega
    refine w_block ?_
    have hz' := hz i _ hx
    have hp' := hp i _ hx
    simp only [List.append_assoc, List.cons_append, List.nil_append] at hz' hp'
    (repeat' first
    | refine w_seq ?_ | refine w_rg ?_ | refine wo_nil ?_ | refine g_skU ?_
    | ((first | apply s_plain | apply s_void | apply s_guard); · simp only [go_sem, Nat.reduceEqDiff, Nat.reduceAdd, Nat.reduceLeDiff, h0, h2, hti, e1, Int.toNat_natCast, hx, h1 i _ hx, List.append_assoc, hz', hp']; (first | done | rfl))
    | ((first | apply g_T | apply g_F); · intro hb; simp only [go_sem, Nat.reduceEqDiff, Nat.reduceAdd, Nat.reduceLeDiff, h0, h2, hti, e1, Int.toNat_natCast, hx, h1 i _ hx, List.append_assoc, hz', hp', hb]; (first | done | rfl))
    | ((first | apply g_gT | apply g_gF); · intro hb hc; simp only [go_sem, Nat.reduceEqDiff, Nat.reduceAdd, Nat.reduceLeDiff, h0, h2, hti, e1, Int.toNat_natCast, hx, h1 i _ hx, List.append_assoc, hz', hp', hb, hc]; (first | done | rfl))
    | refine g_skT ?_ | refine g_skF ?_
    | ((first | apply g_goT | apply g_goF); · simp only [go_sem, Nat.reduceEqDiff, Nat.reduceAdd, Nat.reduceLeDiff, h0, h2, hti, e1, Int.toNat_natCast, hx, h1 i _ hx, List.append_assoc, hz', hp']; (first | done | rfl))
    | fail
    )
    cases hpi : p i with
    | true =>
      (repeat' first
    | refine w_seq ?_ | refine w_rg ?_ | refine wo_nil ?_ | refine g_skU ?_
    | ((first | apply s_plain | apply s_void | apply s_guard); · simp only [go_sem, Nat.reduceEqDiff, Nat.reduceAdd, Nat.reduceLeDiff]; (first | done | rfl))
    | ((first | apply g_T | apply g_F); · intro hb; simp only [go_sem, Nat.reduceEqDiff, Nat.reduceAdd, Nat.reduceLeDiff, hb]; (first | done | rfl))
    | ((first | apply g_gT | apply g_gF); · intro hb hc; simp only [go_sem, Nat.reduceEqDiff, Nat.reduceAdd, Nat.reduceLeDiff, hb, hc]; (first | done | rfl))
    | refine g_skT ?_ | refine g_skF ?_
    | ((first | apply g_goT | apply g_goF); · simp only [go_sem, Nat.reduceEqDiff, Nat.reduceAdd, Nat.reduceLeDiff]; (first | done | rfl))
    | (refine w_condT ?_ ?_; · simp only [go_sem, Nat.reduceEqDiff, Nat.reduceAdd, Nat.reduceLeDiff]; (first | done | rfl))
    | (refine w_condF ?_ ?_; · simp only [go_sem, Nat.reduceEqDiff, Nat.reduceAdd, Nat.reduceLeDiff]; (first | done | rfl))
    | refine w_skip ?_ | refine w_exit ?_ | refine w_ret ?_
    | fail
    )
      exact ⟨.inr rfl, by simp only [go_sem, Nat.reduceEqDiff, Nat.reduceAdd, Nat.reduceLeDiff, retOf, resOf, found_hit hi h3 hpi]⟩
    | false =>
      (repeat' first
    | refine w_seq ?_ | refine w_rg ?_ | refine wo_nil ?_ | refine g_skU ?_
    | ((first | apply s_plain | apply s_void | apply s_guard); · simp only [go_sem, Nat.reduceEqDiff, Nat.reduceAdd, Nat.reduceLeDiff]; (first | done | rfl))
    | ((first | apply g_T | apply g_F); · intro hb; simp only [go_sem, Nat.reduceEqDiff, Nat.reduceAdd, Nat.reduceLeDiff, hb]; (first | done | rfl))
    | ((first | apply g_gT | apply g_gF); · intro hb hc; simp only [go_sem, Nat.reduceEqDiff, Nat.reduceAdd, Nat.reduceLeDiff, hb, hc]; (first | done | rfl))
    | refine g_skT ?_ | refine g_skF ?_
    | ((first | apply g_goT | apply g_goF); · simp only [go_sem, Nat.reduceEqDiff, Nat.reduceAdd, Nat.reduceLeDiff]; (first | done | rfl))
    | (refine w_condT ?_ ?_; · simp only [go_sem, Nat.reduceEqDiff, Nat.reduceAdd, Nat.reduceLeDiff]; (first | done | rfl))
    | (refine w_condF ?_ ?_; · simp only [go_sem, Nat.reduceEqDiff, Nat.reduceAdd, Nat.reduceLeDiff]; (first | done | rfl))
    | refine w_skip ?_ | refine w_exit ?_ | refine w_ret ?_
    | fail
    )
      refine ⟨⟨?_, ?_, fun j hj => ?_⟩, ?_, ?_⟩
      · simp only [go_sem, Nat.reduceEqDiff, Nat.reduceAdd, Nat.reduceLeDiff, h0]
      · simp only [go_sem, Nat.reduceEqDiff, Nat.reduceAdd, Nat.reduceLeDiff, h2]
      · by_cases hji : j = i
        · rw [hji]; exact hpi
        · exact h3 j (by omega)
      · simp only [go_sem, Nat.reduceEqDiff, Nat.reduceAdd, Nat.reduceLeDiff, hti]
      · simp only [go_sem, Nat.reduceEqDiff, Nat.reduceAdd, Nat.reduceLeDiff, htn]
  · rintro fr σ ⟨h0, h2, h3⟩
    simp only [if_true]
    (repeat' first
    | refine w_seq ?_ | refine w_rg ?_ | refine wo_nil ?_ | refine g_skU ?_
    | ((first | apply s_plain | apply s_void | apply s_guard); · simp only [go_sem, Nat.reduceEqDiff, Nat.reduceAdd, Nat.reduceLeDiff]; (first | done | rfl))
    | ((first | apply g_T | apply g_F); · intro hb; simp only [go_sem, Nat.reduceEqDiff, Nat.reduceAdd, Nat.reduceLeDiff, hb]; (first | done | rfl))
    | ((first | apply g_gT | apply g_gF); · intro hb hc; simp only [go_sem, Nat.reduceEqDiff, Nat.reduceAdd, Nat.reduceLeDiff, hb, hc]; (first | done | rfl))
    | refine g_skT ?_ | refine g_skF ?_
    | ((first | apply g_goT | apply g_goF); · simp only [go_sem, Nat.reduceEqDiff, Nat.reduceAdd, Nat.reduceLeDiff]; (first | done | rfl))
    | (refine w_condT ?_ ?_; · simp only [go_sem, Nat.reduceEqDiff, Nat.reduceAdd, Nat.reduceLeDiff]; (first | done | rfl))
    | (refine w_condF ?_ ?_; · simp only [go_sem, Nat.reduceEqDiff, Nat.reduceAdd, Nat.reduceLeDiff]; (first | done | rfl))
    | refine w_skip ?_ | refine w_exit ?_ | refine w_ret ?_
    | fail
    )
    exact ⟨.inr rfl, by simp only [go_sem, Nat.reduceEqDiff, Nat.reduceAdd, Nat.reduceLeDiff, retOf, resOf, found_none h3]⟩
  · refine ⟨?_, ?_, fun j hj => by omega⟩ <;> simp only [go_sem, Nat.reduceEqDiff, Nat.reduceAdd, Nat.reduceLeDiff]
  · simp only [go_sem, Nat.reduceEqDiff, Nat.reduceAdd, Nat.reduceLeDiff]
  · simp only [go_sem, Nat.reduceEqDiff, Nat.reduceAdd, Nat.reduceLeDiff]
theorem a67 (H : Has lax env) {xs : List PV} {k : Nat} {a b : List PV} {n : Int} (ha : ∀ σ, a.mapM (fz σ 11) = some a) (hb : ∀ σ, b.mapM (fz σ 11) = some b) (h : AV env 85 [.sl xs, .fn k a b] = some (.sc (.int .i64 n))) :
    AV env 67 [.sl xs, .fn k a b] = some (.sc (.bool (decide (n ≥ 0)))) := by
  refine AV_wp (H (67, d67) (by simp [lax])) rfl ?_
  (repeat' first
    | refine w_seq ?_ | refine w_rg ?_ | refine wo_nil ?_ | refine g_skU ?_
    | ((first | apply s_plain | apply s_void | apply s_guard); · simp only [go_sem, Nat.reduceEqDiff, Nat.reduceAdd, Nat.reduceLeDiff, h, ha, hb]; (first | done | rfl))
    | ((first | apply g_T | apply g_F); · intro hb; simp only [go_sem, Nat.reduceEqDiff, Nat.reduceAdd, Nat.reduceLeDiff, h, ha, hb, hb]; (first | done | rfl))
    | ((first | apply g_gT | apply g_gF); · intro hb hc; simp only [go_sem, Nat.reduceEqDiff, Nat.reduceAdd, Nat.reduceLeDiff, h, ha, hb, hb, hc]; (first | done | rfl))
    | refine g_skT ?_ | refine g_skF ?_
    | ((first | apply g_goT | apply g_goF); · simp only [go_sem, Nat.reduceEqDiff, Nat.reduceAdd, Nat.reduceLeDiff, h, ha, hb]; (first | done | rfl))
    | (refine w_condT ?_ ?_; · simp only [go_sem, Nat.reduceEqDiff, Nat.reduceAdd, Nat.reduceLeDiff, h, ha, hb]; (first | done | rfl))
    | (refine w_condF ?_ ?_; · simp only [go_sem, Nat.reduceEqDiff, Nat.reduceAdd, Nat.reduceLeDiff, h, ha, hb]; (first | done | rfl))
    | refine w_skip ?_ | refine w_exit ?_ | refine w_ret ?_
    | fail
    )
  exact ⟨.inr rfl, by simp only [go_sem, Nat.reduceEqDiff, Nat.reduceAdd, Nat.reduceLeDiff, retOf, resOf]⟩
/-- A byte of a text. -/
def byteAt (s : ByteArray) (i : Nat) : Int := match s.data.toList[i]? with | some u => (u.toNat : Int) | none => 0
theorem bytes_get {s : ByteArray} {i : Nat} {e : PV} (h : (bytesPV s)[i]? = some e) : e = .sc (.int .u8 (byteAt s i)) := by
  unfold bytesPV at h
  rw [List.getElem?_map] at h
  obtain ⟨u, hu, rfl⟩ := Option.map_eq_some_iff.1 h
  unfold byteAt
  rw [hu]
theorem bytes_len (s : ByteArray) : (bytesPV s).length = s.size := by simp [bytesPV]
theorem a85b (H : Has lax env) {s : ByteArray} {k : Nat} {q : Int → Bool} (hn : s.size ≤ 9223372036854775807) (hp : ∀ c, AV env k [.sc (.int .u8 c)] = some (.sc (.bool (q c)))) :
    AV env 85 [.sl (bytesPV s), .fn k [] []] = some (.sc (.int .i64 (found (fun i => q (byteAt s i)) s.size))) := by
  have := a85g (H (85, d85) (by simp [lax])) (xs := bytesPV s) (k := k) (a := []) (b := []) (p := fun i => q (byteAt s i)) (by rw [bytes_len]; exact hn) (fun i e h => by rw [bytes_get h]; rfl) (fun i e h σ => by
    rw [bytes_get h]; rfl) (fun i e h => by rw [bytes_get h]; exact hp _)
  rwa [bytes_len] at this
theorem a67b (H : Has lax env) {s : ByteArray} {k : Nat} {q : Int → Bool} (hn : s.size ≤ 9223372036854775807) (hp : ∀ c, AV env k [.sc (.int .u8 c)] = some (.sc (.bool (q c)))) :
    AV env 67 [.sl (bytesPV s), .fn k [] []] = some (.sc (.bool (decide (found (fun i => q (byteAt s i)) s.size ≥ 0)))) :=
  a67 H (fun _ => rfl) (fun _ => rfl) (a85b H hn hp)
def oddW (c : Int) : Bool := (decide (c < 97) || decide (c > 122)) && (decide (c < 48) || decide (c > 57)) && (c != 95)
def hasB (q : Int → Bool) (s : ByteArray) : Bool := decide (found (fun i => q (byteAt s i)) s.size ≥ 0)
def wordB (s : ByteArray) : Bool := !(s.toList == (⟨#[]⟩ : ByteArray).toList) && decide ((s.size : Int) ≤ 64) && !hasB oddW s
theorem a49 (H : Has law env) {s : ByteArray} (hn : s.size ≤ 9223372036854775807) : AV env 49 [.sc (.string s)] = some (.sc (.bool (wordB s))) := by
  have h1 := a67b (law_lax H) (k := 66) hn (a66 H)
  refine AV_wp (H (49, d49) (by simp [law])) rfl ?_
  (repeat' first
    | refine w_seq ?_ | refine w_rg ?_ | refine wo_nil ?_ | refine g_skU ?_
    | ((first | apply s_plain | apply s_void | apply s_guard); · simp only [go_sem, Nat.reduceEqDiff, Nat.reduceAdd, Nat.reduceLeDiff, h1]; (first | done | rfl))
    | ((first | apply g_T | apply g_F); · intro hb; simp only [go_sem, Nat.reduceEqDiff, Nat.reduceAdd, Nat.reduceLeDiff, h1, hb]; (first | done | rfl))
    | ((first | apply g_gT | apply g_gF); · intro hb hc; simp only [go_sem, Nat.reduceEqDiff, Nat.reduceAdd, Nat.reduceLeDiff, h1, hb, hc]; (first | done | rfl))
    | refine g_skT ?_ | refine g_skF ?_
    | ((first | apply g_goT | apply g_goF); · simp only [go_sem, Nat.reduceEqDiff, Nat.reduceAdd, Nat.reduceLeDiff, h1]; (first | done | rfl))
    | (refine w_condT ?_ ?_; · simp only [go_sem, Nat.reduceEqDiff, Nat.reduceAdd, Nat.reduceLeDiff, h1]; (first | done | rfl))
    | (refine w_condF ?_ ?_; · simp only [go_sem, Nat.reduceEqDiff, Nat.reduceAdd, Nat.reduceLeDiff, h1]; (first | done | rfl))
    | refine w_skip ?_ | refine w_exit ?_ | refine w_ret ?_
    | fail
    )
  exact ⟨.inr rfl, by simp only [go_sem, Nat.reduceEqDiff, Nat.reduceAdd, Nat.reduceLeDiff, retOf, resOf]; rfl⟩
end
end Go.Proofs.YtdlfomiclkpibaaDoorPv
namespace Go.Proofs.YtdlfomiclkpibaaDoorPv
open Go
set_option linter.unusedSimpArgs false
set_option linter.unusedVariables false
set_option maxHeartbeats 4000000
attribute [local go_sem ↓] e_mv e_pick e_bin e_eqs e_beq e_un e_cvi e_str e_s2b e_b2s e_box e_build e_bsl e_ld e_st e_nck e_mkf e_slcS e_slcL e_fa e_fld e_ia e_iaa e_ix e_ixa e_ext e_lenS e_lenL e_mnmx e_app e_appb e_bbx e_msl e_clr e_call e_callv pa_t pa_c pa_f slcSP_str hiOf_some hiOf_none loOf_some loOf_none set_eq set_ne
attribute [local go_sem] pv pv1 simple frOf_0 frOf_1 frOf_2 frOf_3 frOf_4 frOf_5 ne_eq not_false_eq_true if_true Bool.false_eq_true if_false pbin punary Option.map_some Option.bind_some pick_and pick_or opt_true Bool.true_and Bool.and_self Bool.and_true Bool.true_or Bool.false_or Bool.not_true Bool.not_false callE pcall_eq List.map_cons List.map_nil List.append_nil List.nil_append List.cons_append mapM_cons' mapM_nil' dep_eq fz_sc fz_sl fz_em fz_fn fz_fp fz_agg fz_tu fz_bx fz_ob Nat.lt_irrefl Nat.zero_lt_one Nat.lt_add_one flat clL cl Bool.or_true okc_sc okc_em okc_sl okc_ob okc_bx okc_fp okc_fn okc_agg okc_ifc cells_agg cells_sc cells_sl cells_em cells_ob cells_fn cells_bx cells_fp List.length_cons List.length_nil Nat.zero_add and_self true_and and_true new_m new_c put_m put_c nil_m nil_c deref List.getElem?_cons_zero List.getElem?_cons_succ List.drop_zero List.drop_succ_cons List.take_succ_cons List.take_zero Nat.le_refl false_and and_false decide_true decide_false lenP_em lenP_nil lenP_sl lenP_ob Int.ofNat_zero
set_option maxRecDepth 8000
/-- (*strings.Builder).WriteString -/
def d24 : Def := (.code 2 [.tmp 4, .tmp 5] (.seq (.rg false [⟨.some 4, .none, .mv (.c (.int .i64 0))⟩, ⟨.some 5, .none, .mv (.c .nilIface)⟩]) (.seq (.rg false [⟨.some 6, .none, .mv (.t 0)⟩, ⟨.some 7, .none, .call 47 .opn [.t 6]⟩]) (.seq (.rg false [⟨.some 8, .none, .mv (.t 0)⟩, ⟨.some 9, .none, .mv (.t 0)⟩, ⟨.some 10, .none, .nck (.t 9)⟩, ⟨.some 11, .none, .fa 1 (.t 10)⟩, ⟨.some 12, .none, .ld .none (.t 11)⟩, ⟨.some 13, .none, .mv (.t 1)⟩, ⟨.some 14, .none, .appb false (.t 12) (.t 13)⟩, ⟨.some 15, .none, .nck (.t 8)⟩, ⟨.some 16, .none, .fa 1 (.t 15)⟩, ⟨.none, .none, .st 1 (.t 16) (.t 14)⟩]) (.seq (.rg false [⟨.some 17, .none, .mv (.t 1)⟩, ⟨.some 18, .none, .lenS (.t 17)⟩, ⟨.some 4, .none, .mv (.t 18)⟩, ⟨.some 5, .none, .mv (.c .nilIface)⟩]) .ret)))))
def lbw : List (Nat × Def) := [(24, d24), (47, .prim ccF)]
def lbs : List (Nat × Def) := [(26, .prim strF)]
section
variable {env : Nat → Option Def} {fr : Fr} {σ σ' σ'' : St} {K : Fr → St → Prop} {Q : X → Fr → St → Prop} {p : PV} {bs : List UInt8}
/-! ### rows that nobody writes -/
/-- Rows (not boxes) hold what they held. -/
def SubS (σ σ' : St) : Prop := ∀ o g x, o < 2000000 → σ.m o g = some x → ∃ x', σ'.m o g = some x' ∧ x'.es = x.es ∧ x'.xs = x.xs
theorem SubS.refl (σ : St) : SubS σ σ := fun _ _ x _ h => ⟨x, h, rfl, rfl⟩
theorem SubS.trans (h : SubS σ σ') (h' : SubS σ' σ'') : SubS σ σ'' := fun o g x ho hx =>
  let ⟨y, h1, h2, h3⟩ := h o g x ho hx
  let ⟨z, h4, h5, h6⟩ := h' o g y ho h1
  ⟨z, h4, h5.trans h2, h6.trans h3⟩
theorem SubS.box (h : SubS σ σ') {o g : Nat} (ho : 2000000 ≤ o) (y : Option Obj) : SubS σ (σ'.put o g y) := fun o' g' x ho' hx => by
  obtain ⟨z, h1, h2⟩ := h o' g' x ho' hx
  refine ⟨z, ?_, h2⟩
  simp only [put_m]
  rw [if_neg (by omega)]
  exact h1
theorem SubS.new (h : SubS σ σ') (hF : Fresh σ') (s : Nat) (y : Obj) : SubS σ (σ'.new s y) := fun o' g' x ho' hx => by
  obtain ⟨z, h1, h2⟩ := h o' g' x ho' hx
  refine ⟨z, ?_, h2⟩
  simp only [new_m]
  rw [if_neg]
  · exact h1
  · rintro ⟨rfl, rfl⟩
    rw [hF.none] at h1; cases h1
theorem SubS.same (h : SubS σ σ') {o g : Nat} {x y : Obj} (hx : σ'.m o g = some x) (h1 : y.es = x.es) (h2 : y.xs = x.xs) : SubS σ (σ'.put o g (some y)) := fun o' g' z ho' hz => by
  obtain ⟨u, q1, q2, q3⟩ := h o' g' z ho' hz
  simp only [put_m]
  by_cases hq : o' = o ∧ g' = g
  · obtain ⟨rfl, rfl⟩ := hq
    rw [hx] at q1
    simp only [Option.some.injEq] at q1
    subst q1
    exact ⟨y, by simp, h1.trans q2, h2.trans q3⟩
  · exact ⟨u, by rw [if_neg hq]; exact q1, q2, q3⟩
theorem Fresh.put (h : Fresh σ) {o g : Nat} {x : Obj} (hx : σ.m o g = some x) (y : Option Obj) : Fresh (σ.put o g y) := by
  intro o' g' hs
  simp only [put_m, put_c] at hs ⊢
  split at hs
  · rename_i hq
    obtain ⟨rfl, rfl⟩ := hq
    exact h o' g' (by rw [hx]; rfl)
  · exact h o' g' hs
theorem Fresh.nil : Fresh St.nil := fun _ _ h => by cases h
/-- A value that lies in rows, and leads to no box: as it stands. -/
def rd (σ : St) : Nat → PV → Option PV
  | 0, _ => none
  | d + 1, p => match p with
    | .em => some (.sl [])
    | .ob o g es i n => if o < 2000000 then match σ.m o g with
      | some x => if x.es = es ∧ i + n ≤ x.xs.length then (((x.xs.drop i).take n).mapM (rd σ d)).map .sl else none
      | none => none else none
    | .agg cs => (cs.mapM (rd σ d)).map .agg
    | .sc v => some (.sc v)
    | .sl xs => some (.sl xs)
    | _ => none
theorem rd_fz : ∀ (d : Nat) (p q : PV), rd σ d p = some q → fz σ d p = some q
  | 0, p, q, h => by simp [rd] at h
  | d + 1, p, q, h => by
    have ih := rd_fz d
    cases p with
    | em => exact h
    | ob o g es i n =>
      simp only [rd] at h
      split at h
      · cases hm : σ.m o g with
        | none => rw [hm] at h; cases h
        | some x =>
          rw [hm] at h
          simp only at h
          split at h
          · rename_i hq
            obtain ⟨l, hl, rfl⟩ := Option.map_eq_some_iff.1 h
            simp only [fz, hm]
            rw [if_pos hq, mapM_imp ih hl]; rfl
          · cases h
      · cases h
    | agg cs =>
      obtain ⟨l, hl, rfl⟩ := Option.map_eq_some_iff.1 h
      simp only [fz]
      rw [mapM_imp ih hl]; rfl
    | sc v => exact h
    | sl xs => exact h
    | _ => simp [rd] at h
theorem rd_sub (hs : SubS σ σ') : ∀ (d : Nat) (p q : PV), rd σ d p = some q → rd σ' d p = some q
  | 0, p, q, h => by simp [rd] at h
  | d + 1, p, q, h => by
    have ih := rd_sub hs d
    cases p with
    | em => exact h
    | ob o g es i n =>
      simp only [rd] at h ⊢
      split at h
      · rename_i ho
        rw [if_pos ho]
        cases hm : σ.m o g with
        | none => rw [hm] at h; cases h
        | some x =>
          rw [hm] at h
          simp only at h
          split at h
          · rename_i hq
            obtain ⟨l, hl, rfl⟩ := Option.map_eq_some_iff.1 h
            obtain ⟨x', h1, h2, h3⟩ := hs o g x ho hm
            simp only [h1, h2, h3]
            rw [if_pos hq, mapM_imp ih hl]; rfl
          · cases h
      · cases h
    | agg cs =>
      obtain ⟨l, hl, rfl⟩ := Option.map_eq_some_iff.1 h
      simp only [rd]
      rw [mapM_imp ih hl]; rfl
    | sc v => exact h
    | sl xs => exact h
    | _ => simp [rd] at h
theorem rd_mono : ∀ (d : Nat) (p q : PV), rd σ d p = some q → rd σ (d + 1) p = some q
  | 0, p, q, h => by simp [rd] at h
  | d + 1, p, q, h => by
    have ih := rd_mono d
    cases p with
    | em => exact h
    | ob o g es i n =>
      simp only [rd] at h
      rw [rd]
      split at h
      · rename_i ho
        simp only [if_pos ho]
        cases hm : σ.m o g with
        | none => rw [hm] at h; cases h
        | some x =>
          rw [hm] at h
          simp only at h ⊢
          split at h
          · rename_i hq
            obtain ⟨l, hl, rfl⟩ := Option.map_eq_some_iff.1 h
            rw [if_pos hq, mapM_imp ih hl]; rfl
          · cases h
      · cases h
    | agg cs =>
      obtain ⟨l, hl, rfl⟩ := Option.map_eq_some_iff.1 h
      rw [rd]
      rw [mapM_imp ih hl]; rfl
    | sc v => exact h
    | sl xs => exact h
    | _ => simp [rd] at h
theorem rd_le {d d' : Nat} (hd : d ≤ d') {p q : PV} (h : rd σ d p = some q) : rd σ d' p = some q := by
  induction hd with
  | refl => exact h
  | step _ ih => exact rd_mono _ _ _ ih
theorem rd_fz_le {d d' : Nat} (hd : d ≤ d') {p q : PV} (h : rd σ d p = some q) : fz σ d' p = some q := rd_fz _ _ _ (rd_le hd h)
theorem rd_sc (d : Nat) (v : Value) : rd σ (d + 1) (.sc v) = some (.sc v) := rfl
theorem rd_sl (d : Nat) (v : List PV) : rd σ (d + 1) (.sl v) = some (.sl v) := rfl
theorem rd_em (d : Nat) : rd σ (d + 1) .em = some (.sl []) := rfl
theorem rd_agg (d : Nat) (cs : List PV) : rd σ (d + 1) (.agg cs) = (cs.mapM (rd σ d)).map .agg := rfl
/-! ### a strings.Builder -/
def bytesOf (bs : List UInt8) : List PV := bs.map fun b => .sc (.int .u8 b.toNat)
def Buf (σ : St) (p : PV) (bs : List UInt8) : Prop := (p = .sc (.slice none 0 0) ∧ bs = []) ∨ ∃ g wr, p = .ob bufAt g 1 0 bs.length ∧ σ.m bufAt g = some ⟨1, bytesOf bs, true, wr⟩ ∧ bs ≠ []
/-- The builder of a number holds these bytes. -/
def Bld (σ : St) (g : Nat) (bs : List UInt8) : Prop := ∃ a p, σ.m bldAt g = some ⟨2, [.agg [a, p]], true, true⟩ ∧ (a = .sc (.pointer none) ∨ a = .bx bldAt g 2 0 0) ∧ Buf σ p bs
/-- What a builder's functions leave as it was: all that is no builder's. -/
structure Stays (σ σ' : St) : Prop where
  m : ∀ o g x, o ≠ bldAt → o ≠ bufAt → σ.m o g = some x → σ'.m o g = some x
  c : ∀ o, σ.c o ≤ σ'.c o
  s : SubS σ σ'
  f : Fresh σ'
theorem Stays.trans {σ1 σ2 σ3 : St} (h : Stays σ1 σ2) (h' : Stays σ2 σ3) : Stays σ1 σ3 :=
  ⟨fun o g x a b e => h'.m o g x a b (h.m o g x a b e), fun o => Nat.le_trans (h.c o) (h'.c o), h.s.trans h'.s, h'.f⟩
theorem Stays.refl (h : Fresh σ) : Stays σ σ := ⟨fun _ _ _ _ _ h => h, fun _ => Nat.le_refl _, SubS.refl σ, h⟩
theorem new_c_le (σ : St) (s : Nat) (y : Obj) (o : Nat) : σ.c o ≤ (σ.new s y).c o := by
  simp only [new_c]; split
  · rename_i h; subst h; omega
  · exact Nat.le_refl _
theorem Stays.new (h : Stays σ σ') (s : Nat) (y : Obj) : Stays σ (σ'.new s y) :=
  ⟨fun o g x a b e => (by
    have := h.m o g x a b e
    simp only [new_m]
    rw [if_neg]
    · exact this
    · rintro ⟨rfl, rfl⟩
      rw [h.f.none] at this
      cases this), fun o => Nat.le_trans (h.c o) (new_c_le _ _ _ _), h.s.new h.f _ _, h.f.new _ _⟩
/-- A builder's own cell turns. -/
theorem Stays.bld (h : Stays σ σ') {g : Nat} {x : Obj} (hm : σ'.m bldAt g = some x) (y : Obj) : Stays σ (σ'.put bldAt g (some y)) :=
  ⟨fun o g' x a b e => by simp only [put_m]; rw [if_neg (fun h => a h.1)]; exact h.m o g' x a b e, h.c, h.s.box (by unfold bldAt; omega) _, h.f.put hm _⟩
/-- A buffer's cell turns: what it holds stays. -/
theorem Stays.buf (h : Stays σ σ') {g : Nat} {x y : Obj} (hm : σ'.m bufAt g = some x) (h1 : y.es = x.es) (h2 : y.xs = x.xs) : Stays σ (σ'.put bufAt g (some y)) :=
  ⟨fun o g' x a b e => by simp only [put_m]; rw [if_neg (fun h => b h.1)]; exact h.m o g' x a b e, h.c, h.s.same hm h1 h2, h.f.put hm _⟩
theorem bytes_ok (bs : List UInt8) : ((bytesOf bs).all fun y => okc y && (cellsOf y).length == 1) = true := by
  rw [List.all_eq_true]
  intro y hy
  simp only [bytesOf, List.mem_map] at hy
  obtain ⟨b, _, rfl⟩ := hy
  rfl
theorem bytesPV_of (s : ByteArray) : bytesPV s = bytesOf s.data.toList := rfl
theorem bytesOf_len (bs : List UInt8) : (bytesOf bs).length = bs.length := by simp [bytesOf]
/-- Bytes behind a buffer. -/
theorem buf_app {E : Ev} {d : Nat} {s' x : PA} {bs cs : List UInt8} (hb : Buf σ (pa fr s') bs) (hF : Fresh σ) (hsrc : srcOf σ 1 (pa fr x) = some (bytesOf cs)) (hl : bs.length + cs.length ≤ 70368744177664) :
    ∃ p σ', evO E d fr σ (.appb false s' x) = some (p, σ') ∧ Buf σ' p (bs ++ cs) ∧ Stays σ σ' ∧ ∀ g, σ'.m bldAt g = σ.m bldAt g := by
  have hbb : bldAt ≠ bufAt := by decide
  simp only [e_appb, hsrc, Option.bind_some]
  rw [if_pos (bytes_ok cs)]
  rcases hb with ⟨hp, rfl⟩ | ⟨g, wr, hp, hm, hne⟩
  · rw [hp]
    simp only [bytesOf_len, Nat.mul_one]
    rw [if_pos (by simpa using hl)]
    cases cs with
    | nil => exact ⟨_, σ, rfl, .inl ⟨rfl, rfl⟩, Stays.refl hF, fun _ => rfl⟩
    | cons c cs =>
      refine ⟨.ob bufAt (σ.c bufAt) 1 0 (c :: cs).length, σ.new bufAt ⟨1, bytesOf (c :: cs), true, true⟩, rfl, .inr ⟨σ.c bufAt, true, by simp, by simp [new_m], by simp⟩, (Stays.refl hF).new _ _, fun g => ?_⟩
      simp only [new_m]; rw [if_neg (fun h => hbb h.1)]
  · rw [hp]
    simp only [hm, bytesOf_len, Nat.mul_one]
    rw [if_pos ⟨trivial, trivial, trivial, trivial, trivial, trivial, hl⟩]
    simp only [Bool.false_eq_true, if_false, Bool.and_false]
    refine ⟨.ob bufAt (σ.c bufAt) 1 0 (bs.length + cs.length), (σ.put bufAt g (some ⟨1, bytesOf bs, false, false⟩)).new bufAt ⟨1, bytesOf bs ++ bytesOf cs, true, false⟩, rfl,
      .inr ⟨σ.c bufAt, false, by simp, by simp [new_m, put_c, bytesOf], by simp [hne]⟩, ((Stays.refl hF).buf (y := ⟨1, bytesOf bs, false, false⟩) hm rfl rfl).new _ _, fun g => ?_⟩
    simp only [new_m, put_m]; rw [if_neg (fun h => hbb h.1), if_neg (fun h => hbb h.1)]
/-- (*strings.Builder).copyCheck. -/
theorem b_cc (h47 : env 47 = some (.prim ccF)) {g : Nat} {bs : List UInt8} (hb : Bld σ g bs) (hF : Fresh σ) :
    ∃ p σ', EV env 47 [.bx bldAt g 2 0 0] σ = some (.tu [], σ') ∧ σ'.m bldAt g = some ⟨2, [.agg [.bx bldAt g 2 0 0, p]], true, true⟩ ∧ Buf σ' p bs ∧ Stays σ σ' := by
  obtain ⟨a, p, hm, ha, hbf⟩ := hb
  rcases ha with rfl | rfl
  · refine ⟨p, σ.put bldAt g (some ⟨2, [.agg [.bx bldAt g 2 0 0, p]], true, true⟩), ?_, by simp [put_m], ?_, (Stays.refl hF).bld hm _⟩
    · rw [EV_prim h47]
      simp only [ccF, hm]
      rfl
    · rcases hbf with h | ⟨g', wr, h1, h2, h3⟩
      · exact .inl h
      · exact .inr ⟨g', wr, h1, by simp only [put_m]; rw [if_neg (fun h => absurd h.1 (by decide))]; exact h2, h3⟩
  · refine ⟨p, σ, ?_, hm, hbf, Stays.refl hF⟩
    rw [EV_prim h47]
    simp only [ccF, hm]
    rfl
theorem s_appb {d t : Nat} {x : PA} {ops : List POp} {bs cs : List UInt8} (hb : Buf σ (fr t) bs) (hF : Fresh σ) (hsrc : srcOf σ 1 (pa fr x) = some (bytesOf cs)) (hl : bs.length + cs.length ≤ 70368744177664)
    (h2 : ∀ p σ', Buf σ' p (bs ++ cs) → Stays σ σ' → (∀ g, σ'.m bldAt g = σ.m bldAt g) → Wos env ops K (fr.set d p) σ') : Wos env (⟨some d, none, .appb false (.t t) x⟩ :: ops) K fr σ := by
  obtain ⟨p, σ', h3, h4, h5, h6⟩ := buf_app (E := EV env) (d := d) (fr := fr) (s' := .t t) (x := x) hb hF hsrc hl
  exact s_plain h3 (h2 p σ' h4 h5 h6)
theorem Buf.bld (h : Buf σ p bs) (g : Nat) (y : Option Obj) : Buf (σ.put bldAt g y) p bs := by
  rcases h with h | ⟨g', wr, h1, h2, h3⟩
  · exact .inl h
  · exact .inr ⟨g', wr, h1, by simp only [put_m]; rw [if_neg (fun h => absurd h.1 (by decide))]; exact h2, h3⟩
theorem Buf.ok (h : Buf σ p bs) : cellsOf p = [p] ∧ okc p = true := by
  rcases h with ⟨rfl, _⟩ | ⟨g', wr, rfl, _, _⟩ <;> exact ⟨rfl, rfl⟩
/-- (*strings.Builder).WriteString. -/
theorem b_ws (H : Has lbw env) {g : Nat} {bs : List UInt8} (hb : Bld σ g bs) (hF : Fresh σ) (s : ByteArray) (hl : bs.length + s.size ≤ 70368744177664) :
    ∃ σ', EV env 24 [.bx bldAt g 2 0 0, .sc (.string s)] σ = some (.tu [.sc (.int .i64 s.size), .sc .nilIface], σ') ∧ Bld σ' g (bs ++ s.data.toList) ∧ Stays σ σ' := by
  obtain ⟨p, σ1, h1, hm1, hb1, hk1⟩ := b_cc (H (47, .prim ccF) (by simp [lbw])) hb hF
  obtain ⟨r, σ', he, hr⟩ := EV_wp' (f := 24) (as := [.bx bldAt g 2 0 0, .sc (.string s)]) (R := fun r τ => r = .tu [.sc (.int .i64 s.size), .sc .nilIface] ∧ Bld τ g (bs ++ s.data.toList) ∧ Stays σ τ) (σ := σ) (H (24, d24) (by simp [lbw])) rfl (by
    (repeat' first
    | refine w_seq ?_ | refine w_rg ?_ | refine wo_nil ?_ | refine g_skU ?_
    | ((first | apply s_plain | apply s_void | apply s_guard); · simp only [go_sem, Nat.reduceEqDiff, Nat.reduceAdd, Nat.reduceLeDiff, h1]; (first | done | rfl))
    | ((first | apply g_T | apply g_F); · intro hb; simp only [go_sem, Nat.reduceEqDiff, Nat.reduceAdd, Nat.reduceLeDiff, h1, hb]; (first | done | rfl))
    | ((first | apply g_gT | apply g_gF); · intro hb hc; simp only [go_sem, Nat.reduceEqDiff, Nat.reduceAdd, Nat.reduceLeDiff, h1, hb, hc]; (first | done | rfl))
    | refine g_skT ?_ | refine g_skF ?_
    | ((first | apply g_goT | apply g_goF); · simp only [go_sem, Nat.reduceEqDiff, Nat.reduceAdd, Nat.reduceLeDiff, h1]; (first | done | rfl))
    | fail
    )
    (repeat' first
    | refine w_seq ?_ | refine w_rg ?_ | refine wo_nil ?_ | refine g_skU ?_
    | ((first | apply s_plain | apply s_void | apply s_guard); · simp only [go_sem, Nat.reduceEqDiff, Nat.reduceAdd, Nat.reduceLeDiff, hm1, List.modify_zero_cons]; (first | done | rfl))
    | ((first | apply g_T | apply g_F); · intro hb; simp only [go_sem, Nat.reduceEqDiff, Nat.reduceAdd, Nat.reduceLeDiff, hm1, List.modify_zero_cons, hb]; (first | done | rfl))
    | ((first | apply g_gT | apply g_gF); · intro hb hc; simp only [go_sem, Nat.reduceEqDiff, Nat.reduceAdd, Nat.reduceLeDiff, hm1, List.modify_zero_cons, hb, hc]; (first | done | rfl))
    | refine g_skT ?_ | refine g_skF ?_
    | ((first | apply g_goT | apply g_goF); · simp only [go_sem, Nat.reduceEqDiff, Nat.reduceAdd, Nat.reduceLeDiff, hm1, List.modify_zero_cons]; (first | done | rfl))
    | fail
    )
    refine s_appb (bs := bs) (cs := s.data.toList) (by simp only [go_sem, Nat.reduceEqDiff, Nat.reduceAdd, Nat.reduceLeDiff]; exact hb1) hk1.f (by simp only [go_sem, Nat.reduceEqDiff, Nat.reduceAdd, Nat.reduceLeDiff, srcOf]; rfl) (show bs.length + s.size ≤ _ from hl) ?_
    intro p2 σ2 hb2 hk2 hm2
    have hm3 := (hm2 g).trans hm1
    obtain ⟨k1, k2⟩ := hb2.ok
    (repeat' first
    | refine w_seq ?_ | refine w_rg ?_ | refine wo_nil ?_ | refine g_skU ?_
    | ((first | apply s_plain | apply s_void | apply s_guard); · simp only [go_sem, Nat.reduceEqDiff, Nat.reduceAdd, Nat.reduceLeDiff, hm3, splice, List.modify_zero_cons, k1, k2]; (first | done | rfl))
    | ((first | apply g_T | apply g_F); · intro hb; simp only [go_sem, Nat.reduceEqDiff, Nat.reduceAdd, Nat.reduceLeDiff, hm3, splice, List.modify_zero_cons, k1, k2, hb]; (first | done | rfl))
    | ((first | apply g_gT | apply g_gF); · intro hb hc; simp only [go_sem, Nat.reduceEqDiff, Nat.reduceAdd, Nat.reduceLeDiff, hm3, splice, List.modify_zero_cons, k1, k2, hb, hc]; (first | done | rfl))
    | refine g_skT ?_ | refine g_skF ?_
    | ((first | apply g_goT | apply g_goF); · simp only [go_sem, Nat.reduceEqDiff, Nat.reduceAdd, Nat.reduceLeDiff, hm3, splice, List.modify_zero_cons, k1, k2]; (first | done | rfl))
    | (refine w_condT ?_ ?_; · simp only [go_sem, Nat.reduceEqDiff, Nat.reduceAdd, Nat.reduceLeDiff, hm3, splice, List.modify_zero_cons, k1, k2]; (first | done | rfl))
    | (refine w_condF ?_ ?_; · simp only [go_sem, Nat.reduceEqDiff, Nat.reduceAdd, Nat.reduceLeDiff, hm3, splice, List.modify_zero_cons, k1, k2]; (first | done | rfl))
    | refine w_skip ?_ | refine w_exit ?_ | refine w_ret ?_
    | fail
    )
    refine ⟨.inr rfl, _, by simp only [go_sem, Nat.reduceEqDiff, Nat.reduceAdd, Nat.reduceLeDiff, retOf, resOf], rfl, ⟨.bx bldAt g 2 0 0, p2, ?_, .inr rfl, hb2.bld _ _⟩, (hk1.trans hk2).bld hm3 _⟩
    simp only [go_sem, Nat.reduceEqDiff, Nat.reduceAdd, Nat.reduceLeDiff])
  exact ⟨σ', by rw [he, hr.1], hr.2⟩
/-- (*strings.Builder).String. -/
theorem b_st (S : Has lbs env) {g : Nat} {bs : List UInt8} (hb : Bld σ g bs) (hF : Fresh σ) (hl : bs.length ≤ 70368744177664) :
    ∃ σ', EV env 26 [.bx bldAt g 2 0 0] σ = some (.sc (.string ⟨bs.toArray⟩), σ') ∧ Stays σ σ' := by
  obtain ⟨a, p, hm, ha, hbf⟩ := hb
  have h := S (26, .prim strF) (by simp [lbs])
  rcases hbf with ⟨rfl, rfl⟩ | ⟨g', wr, rfl, h2, hne⟩
  · refine ⟨σ, ?_, Stays.refl hF⟩
    rw [EV_prim h]
    simp only [strF, hm]
    rfl
  · have hpos : 0 < bs.length := List.length_pos_iff.2 hne
    refine ⟨σ.put bufAt g' (some ⟨1, bytesOf bs, false, false⟩), ?_, (Stays.refl hF).buf (y := ⟨1, bytesOf bs, false, false⟩) h2 rfl rfl⟩
    rw [EV_prim h]
    simp only [strF, hm, h2]
    rw [if_pos ⟨trivial, trivial, trivial, trivial⟩, if_pos ⟨trivial, trivial, trivial⟩, if_pos ⟨by rw [bytesOf_len], hpos, hl⟩, show bytes? (bytesOf bs) = some bs from bytes?_map bs]
    rfl
theorem s_ws {d t : Nat} {x : PA} {ops : List POp} (H : Has lbw env) {g : Nat} {bs : List UInt8} {s : ByteArray} (ht : fr t = .bx bldAt g 2 0 0) (hx : pa fr x = .sc (.string s)) (hb : Bld σ g bs) (hF : Fresh σ) (hl : bs.length + s.size ≤ 70368744177664)
    (h2 : ∀ σ', Bld σ' g (bs ++ s.data.toList) → Stays σ σ' → Wos env ops K (fr.set d (.tu [.sc (.int .i64 s.size), .sc .nilIface])) σ') : Wos env (⟨some d, none, .call 24 .opn [.t t, x]⟩ :: ops) K fr σ := by
  obtain ⟨σ', h1, h3, h4⟩ := b_ws H hb hF s hl
  exact s_plain (v := .tu [.sc (.int .i64 s.size), .sc .nilIface]) (σ' := σ') (by simp only [evO, callE, List.map_cons, List.map_nil, pa_t, ht, hx]; exact h1) (h2 σ' h3 h4)
theorem s_st {d t : Nat} {ops : List POp} (S : Has lbs env) {g : Nat} {bs : List UInt8} (ht : fr t = .bx bldAt g 2 0 0) (hb : Bld σ g bs) (hF : Fresh σ) (hl : bs.length ≤ 70368744177664)
    (h2 : ∀ σ', Stays σ σ' → Wos env ops K (fr.set d (.sc (.string ⟨bs.toArray⟩))) σ') : Wos env (⟨some d, none, .call 26 .opn [.t t]⟩ :: ops) K fr σ := by
  obtain ⟨σ', h1, h4⟩ := b_st S hb hF hl
  exact s_plain (v := .sc (.string ⟨bs.toArray⟩)) (σ' := σ') (by simp only [evO, callE, List.map_cons, List.map_nil, pa_t, ht]; exact h1) (h2 σ' h4)
/-- A fresh builder. -/
theorem bld_new (σ : St) : Bld (σ.new bldAt ⟨2, [.agg [.sc (.pointer none), .sc (.slice none 0 0)]], true, true⟩) (σ.c bldAt) [] :=
  ⟨.sc (.pointer none), .sc (.slice none 0 0), by simp [new_m], .inl rfl, .inl ⟨rfl, rfl⟩⟩
theorem Bld.new {g : Nat} (h : Bld σ g bs) (hF : Fresh σ) (s : Nat) (y : Obj) : Bld (σ.new s y) g bs := by
  obtain ⟨a, p, hm, ha, hb⟩ := h
  have key : ∀ o g x, σ.m o g = some x → (σ.new s y).m o g = some x := fun o g x h => by
    simp only [new_m]
    rw [if_neg]
    · exact h
    · rintro ⟨rfl, rfl⟩
      rw [hF.none] at h; cases h
  refine ⟨a, p, key _ _ _ hm, ha, ?_⟩
  rcases hb with h | ⟨g', wr, h1, h2, h3⟩
  · exact .inl h
  · exact .inr ⟨g', wr, h1, key _ _ _ h2, h3⟩
theorem Bld.put {g o k : Nat} (h : Bld σ g bs) (h1 : o ≠ bldAt) (h2 : o ≠ bufAt) (y : Option Obj) : Bld (σ.put o k y) g bs := by
  obtain ⟨a, p, hm, ha, hb⟩ := h
  refine ⟨a, p, by simp only [put_m]; rw [if_neg (fun h => h1 h.1.symm)]; exact hm, ha, ?_⟩
  rcases hb with h | ⟨g', wr, q1, q2, q3⟩
  · exact .inl h
  · exact .inr ⟨g', wr, q1, by simp only [put_m]; rw [if_neg (fun h => h2 h.1.symm)]; exact q2, q3⟩
end
end Go.Proofs.YtdlfomiclkpibaaDoorPv
namespace Go.Proofs.YtdlfomiclkpibaaDoorPv
open Go
set_option linter.unusedSimpArgs false
set_option linter.unusedVariables false
set_option maxHeartbeats 4000000
attribute [local go_sem ↓] e_mv e_pick e_bin e_eqs e_beq e_un e_cvi e_str e_s2b e_b2s e_box e_build e_bsl e_ld e_st e_nck e_mkf e_slcS e_slcL e_fa e_fld e_ia e_iaa e_ix e_ixa e_ext e_lenS e_lenL e_mnmx e_app e_appb e_bbx e_msl e_clr e_call e_callv pa_t pa_c pa_f slcSP_str hiOf_some hiOf_none loOf_some loOf_none set_eq set_ne
attribute [local go_sem] pv pv1 simple frOf_0 frOf_1 frOf_2 frOf_3 frOf_4 frOf_5 ne_eq not_false_eq_true if_true Bool.false_eq_true if_false pbin punary Option.map_some Option.bind_some pick_and pick_or opt_true Bool.true_and Bool.and_self Bool.and_true Bool.true_or Bool.false_or Bool.not_true Bool.not_false callE pcall_eq List.map_cons List.map_nil List.append_nil List.nil_append List.cons_append mapM_cons' mapM_nil' dep_eq fz_sc fz_sl fz_em fz_fn fz_fp fz_agg fz_tu fz_bx fz_ob Nat.lt_irrefl Nat.zero_lt_one Nat.lt_add_one flat clL cl Bool.or_true okc_sc okc_em okc_sl okc_ob okc_bx okc_fp okc_fn okc_agg okc_ifc cells_agg cells_sc cells_sl cells_em cells_ob cells_fn cells_bx cells_fp List.length_cons List.length_nil Nat.zero_add and_self true_and and_true new_m new_c put_m put_c nil_m nil_c deref List.getElem?_cons_zero List.getElem?_cons_succ List.drop_zero List.drop_succ_cons List.take_succ_cons List.take_zero Nat.le_refl false_and and_false decide_true decide_false lenP_em lenP_nil lenP_sl lenP_ob Int.ofNat_zero
set_option maxRecDepth 8000
/-- A text, by its bytes. -/
abbrev txt (l : List UInt8) : PV := .sc (.string ⟨l.toArray⟩)
theorem ba_data (a : Array UInt8) : (⟨a⟩ : ByteArray).data = a := rfl
theorem ba_size (l : List UInt8) : (⟨l.toArray⟩ : ByteArray).size = l.length := by simp [ByteArray.size]
theorem ba_toList (l : List UInt8) : (⟨l.toArray⟩ : ByteArray).toList = l := by rw [ByteArray.toList_eq]
theorem ba_eta (s : ByteArray) : (⟨s.data.toList.toArray⟩ : ByteArray) = s := by simp
theorem txt_eta (s : ByteArray) : txt s.data.toList = .sc (.string s) := by unfold txt; rw [ba_eta]
theorem ba_extract (l : List UInt8) (a b : Nat) : (⟨l.toArray⟩ : ByteArray).extract a b = ⟨((l.take b).drop a).toArray⟩ := by
  apply ByteArray.ext
  rw [ByteArray.data_extract]
  apply Array.ext'
  simp [List.drop_take]
theorem drop_at {r : List UInt8} {i : Nat} (h : i < r.length) : r.drop i = r[i] :: r.drop (i + 1) := List.drop_eq_getElem_cons h
theorem u8_eq {a b : UInt8} : decide ((a.toNat : Int) = (b.toNat : Int)) = decide (a = b) := by
  rw [Bool.eq_iff_iff]
  simp only [decide_eq_true_eq, Int.natCast_inj, UInt8.toNat_inj]
def byteD (s : List UInt8) (i : Nat) : UInt8 := s[i]?.getD 0
theorem byteD_at {s : List UInt8} {i : Nat} (h : i < s.length) : byteD s i = s[i] := by unfold byteD; rw [List.getElem?_eq_getElem h]; rfl
theorem byteD_q {s : List UInt8} {i : Nat} (h : i < s.length) : s[i]? = some (byteD s i) := by rw [List.getElem?_eq_getElem h, byteD_at h]
theorem u8_beq (x c : UInt8) {z : Int} (hz : (c.toNat : Int) = z) : ((x.toNat : Int) == z) = (x == c) := by
  rw [Bool.eq_iff_iff, beq_iff_eq, beq_iff_eq, ← hz, Int.natCast_inj, UInt8.toNat_inj]
theorem u8_ne (x c : UInt8) {z : Int} (hz : (c.toNat : Int) = z) : ((x.toNat : Int) != z) = (x != c) := by
  unfold bne; rw [u8_beq x c hz]
theorem ba_append (a b : List UInt8) : (⟨a.toArray⟩ : ByteArray) ++ ⟨b.toArray⟩ = ⟨(a ++ b).toArray⟩ := by
  apply ByteArray.ext
  rw [ByteArray.data_append]
  simp
/-- internal/stringslite.Cut -/
def d57 : Def := (.code 2 [.tmp 4, .tmp 5, .tmp 6] (.seq (.rg false [⟨.some 4, .none, .mv (.c (.string ⟨#[]⟩))⟩, ⟨.some 5, .none, .mv (.c (.string ⟨#[]⟩))⟩, ⟨.some 6, .none, .mv (.c (.bool false))⟩]) (.seq (.seq (.rg false [⟨.some 8, .none, .mv (.t 0)⟩, ⟨.some 9, .none, .mv (.t 1)⟩, ⟨.some 10, .none, .call 63 .pure [.t 8, .t 9]⟩, ⟨.some 7, .none, .mv (.t 10)⟩]) (.seq (.rg false [⟨.some 11, .none, .mv (.t 7)⟩, ⟨.some 12, .none, .bin .geq (.t 11) (.c (.int .i64 0))⟩]) (.cond (.t 12) (.seq (.rg true [⟨.some 13, .none, .mv (.t 0)⟩, ⟨.some 14, .none, .mv (.t 7)⟩, ⟨.some 15, .none, .slcS (.t 13) .none (.some (.t 14))⟩, ⟨.some 16, .none, .mv (.t 0)⟩, ⟨.some 17, .none, .mv (.t 7)⟩, ⟨.some 18, .none, .mv (.t 1)⟩, ⟨.some 19, .none, .lenS (.t 18)⟩, ⟨.some 20, .none, .bin .add (.t 17) (.t 19)⟩, ⟨.some 21, .none, .slcS (.t 16) (.some (.t 20)) .none⟩, ⟨.some 4, .none, .mv (.t 15)⟩, ⟨.some 5, .none, .mv (.t 21)⟩, ⟨.some 6, .none, .mv (.c (.bool true))⟩]) .ret) .skip))) (.seq (.rg false [⟨.some 22, .none, .mv (.t 0)⟩, ⟨.some 4, .none, .mv (.t 22)⟩, ⟨.some 5, .none, .mv (.c (.string ⟨#[]⟩))⟩, ⟨.some 6, .none, .mv (.c (.bool false))⟩]) .ret))))
/-- strings.Cut -/
def d39 : Def := (.code 2 [.tmp 4, .tmp 5, .tmp 6] (.seq (.rg false [⟨.some 4, .none, .mv (.c (.string ⟨#[]⟩))⟩, ⟨.some 5, .none, .mv (.c (.string ⟨#[]⟩))⟩, ⟨.some 6, .none, .mv (.c (.bool false))⟩]) (.seq (.rg false [⟨.some 7, .none, .mv (.t 0)⟩, ⟨.some 8, .none, .mv (.t 1)⟩, ⟨.some 9, .none, .call 57 .pure [.t 7, .t 8]⟩, ⟨.some 10, .none, .ext (.t 9) 0⟩, ⟨.some 11, .none, .ext (.t 9) 1⟩, ⟨.some 12, .none, .ext (.t 9) 2⟩, ⟨.some 4, .none, .mv (.t 10)⟩, ⟨.some 5, .none, .mv (.t 11)⟩, ⟨.some 6, .none, .mv (.t 12)⟩]) .ret)))
/-- internal/stringslite.HasPrefix -/
def d89 : Def := (.code 2 [.tmp 4] (.seq (.rg false [⟨.some 4, .none, .mv (.c (.bool false))⟩]) (.seq (.rg false [⟨.some 5, .none, .mv (.t 0)⟩, ⟨.some 6, .none, .lenS (.t 5)⟩, ⟨.some 7, .none, .mv (.t 1)⟩, ⟨.some 8, .none, .lenS (.t 7)⟩, ⟨.some 9, .none, .bin .geq (.t 6) (.t 8)⟩, ⟨.some 10, .none, .mv (.t 9)⟩, ⟨.some 11, .some (10, true), .mv (.t 0)⟩, ⟨.some 12, .some (10, true), .mv (.t 1)⟩, ⟨.some 13, .some (10, true), .lenS (.t 12)⟩, ⟨.some 14, .some (10, true), .slcS (.t 11) .none (.some (.t 13))⟩, ⟨.some 15, .some (10, true), .mv (.t 1)⟩, ⟨.some 16, .some (10, true), .bin .eql (.t 14) (.t 15)⟩, ⟨.some 17, .none, .pick (.t 10) (.t 16) (.c (.bool false))⟩, ⟨.some 4, .none, .mv (.t 17)⟩]) .ret)))
/-- internal/stringslite.CutPrefix -/
def d71 : Def := (.code 2 [.tmp 4, .tmp 5] (.seq (.rg false [⟨.some 4, .none, .mv (.c (.string ⟨#[]⟩))⟩, ⟨.some 5, .none, .mv (.c (.bool false))⟩]) (.seq (.seq (.rg false [⟨.some 6, .none, .mv (.t 0)⟩, ⟨.some 7, .none, .mv (.t 1)⟩, ⟨.some 8, .none, .call 89 .pure [.t 6, .t 7]⟩, ⟨.some 9, .none, .un .not (.t 8)⟩]) (.cond (.t 9) (.seq (.rg false [⟨.some 10, .none, .mv (.t 0)⟩, ⟨.some 4, .none, .mv (.t 10)⟩, ⟨.some 5, .none, .mv (.c (.bool false))⟩]) .ret) .skip)) (.seq (.rg false [⟨.some 11, .none, .mv (.t 0)⟩, ⟨.some 12, .none, .mv (.t 1)⟩, ⟨.some 13, .none, .lenS (.t 12)⟩, ⟨.some 14, .none, .slcS (.t 11) (.some (.t 13)) .none⟩, ⟨.some 4, .none, .mv (.t 14)⟩, ⟨.some 5, .none, .mv (.c (.bool true))⟩]) .ret))))
/-- strings.CutPrefix -/
def d54 : Def := (.code 2 [.tmp 4, .tmp 5] (.seq (.rg false [⟨.some 4, .none, .mv (.c (.string ⟨#[]⟩))⟩, ⟨.some 5, .none, .mv (.c (.bool false))⟩]) (.seq (.rg false [⟨.some 6, .none, .mv (.t 0)⟩, ⟨.some 7, .none, .mv (.t 1)⟩, ⟨.some 8, .none, .call 71 .pure [.t 6, .t 7]⟩, ⟨.some 9, .none, .ext (.t 8) 0⟩, ⟨.some 10, .none, .ext (.t 8) 1⟩, ⟨.some 4, .none, .mv (.t 9)⟩, ⟨.some 5, .none, .mv (.t 10)⟩]) .ret)))
def lca : List (Nat × Def) := [(57, d57), (39, d39), (63, .prim (pureF idxF))]
def lcb : List (Nat × Def) := [(89, d89), (71, d71), (54, d54)]
section
variable {env : Nat → Option Def} {fr : Fr} {σ σ' σ'' : St} {K : Fr → St → Prop} {Q : X → Fr → St → Prop} {p : PV} {bs : List UInt8}
theorem a63 (C : Has lca env) {s t : List UInt8} (hs : s.length < 4294967281) : AV env 63 [txt s, txt t] = some (.sc (.int .i64 (Lib.index s t))) := by
  have h := C (63, .prim (pureF idxF)) (by simp [lca])
  refine AV_of (σ := St.nil) (r := .sc (.int .i64 (Lib.index s t))) ?_ rfl
  rw [EV_prim h]
  simp only [pureF, mapM_cons', mapM_nil', scOf, Option.bind_some, idxF, ba_size, ba_data, List.toList_toArray, if_pos hs, Option.map_some]
theorem a57 (C : Has lca env) {s t : List UInt8} (hs : s.length < 4294967281) (ht : t.length < 4294967281) : AV env 57 [txt s, txt t] = some (.tu [txt (Lib.cut s t).1, txt (Lib.cut s t).2.1, .sc (.bool (Lib.cut s t).2.2)]) := by
  have h := a63 C (t := t) hs
  refine AV_wp (C (57, d57) (by simp [lca])) rfl ?_
  (repeat' first
    | refine w_seq ?_ | refine w_rg ?_ | refine wo_nil ?_ | refine g_skU ?_
    | ((first | apply s_plain | apply s_void | apply s_guard); · simp only [go_sem, Nat.reduceEqDiff, Nat.reduceAdd, Nat.reduceLeDiff, h]; (first | done | rfl))
    | ((first | apply g_T | apply g_F); · intro hb; simp only [go_sem, Nat.reduceEqDiff, Nat.reduceAdd, Nat.reduceLeDiff, h, hb]; (first | done | rfl))
    | ((first | apply g_gT | apply g_gF); · intro hb hc; simp only [go_sem, Nat.reduceEqDiff, Nat.reduceAdd, Nat.reduceLeDiff, h, hb, hc]; (first | done | rfl))
    | refine g_skT ?_ | refine g_skF ?_
    | ((first | apply g_goT | apply g_goF); · simp only [go_sem, Nat.reduceEqDiff, Nat.reduceAdd, Nat.reduceLeDiff, h]; (first | done | rfl))
    | fail
    )
  have hc : Lib.cut s t = if 0 ≤ Lib.index s t then (s.take (Lib.index s t).toNat, s.drop ((Lib.index s t).toNat + t.length), true) else (s, [], false) := rfl
  by_cases hx : 0 ≤ Lib.index s t
  · have hx' : decide (Lib.index s t ≥ 0) = true := by simpa using hx
    obtain ⟨i, hi, hle⟩ : ∃ i : Nat, Lib.index s t = i ∧ i + t.length ≤ s.length := by
      have hcs := Lib.indexB_cases ⟨s.toArray⟩ ⟨t.toArray⟩
      simp only [Lib.indexB, List.toList_toArray, ba_size] at hcs
      rcases hcs with h | ⟨i, h1, h2⟩
      · rw [h] at hx; omega
      · exact ⟨i, h1, h2⟩
    rw [hi] at hc hx'
    rw [if_pos (by omega)] at hc
    have b1 : (0 : Int) ≤ (i : Int) ∧ (i : Int) ≤ (s.length : Int) := by omega
    have e2 : IntKind.i64.wrap ((i : Int) + (t.length : Int)) = ((i + t.length : Nat) : Int) := by rw [IntKind.wrap_i64]; omega
    have b2 : (0 : Int) ≤ ((i + t.length : Nat) : Int) ∧ ((i + t.length : Nat) : Int) ≤ (s.length : Int) := by omega
    (repeat' first
    | refine w_seq ?_ | refine w_rg ?_ | refine wo_nil ?_ | refine g_skU ?_
    | ((first | apply s_plain | apply s_void | apply s_guard); · simp only [go_sem, Nat.reduceEqDiff, Nat.reduceAdd, Nat.reduceLeDiff, hi, hx', ba_data, ba_size, ba_toList, ba_extract, ba_append, List.toList_toArray, bound, b1, e2, b2, Int.toNat_natCast]; (first | done | rfl))
    | ((first | apply g_T | apply g_F); · intro hb; simp only [go_sem, Nat.reduceEqDiff, Nat.reduceAdd, Nat.reduceLeDiff, hi, hx', ba_data, ba_size, ba_toList, ba_extract, ba_append, List.toList_toArray, bound, b1, e2, b2, Int.toNat_natCast, hb]; (first | done | rfl))
    | ((first | apply g_gT | apply g_gF); · intro hb hc; simp only [go_sem, Nat.reduceEqDiff, Nat.reduceAdd, Nat.reduceLeDiff, hi, hx', ba_data, ba_size, ba_toList, ba_extract, ba_append, List.toList_toArray, bound, b1, e2, b2, Int.toNat_natCast, hb, hc]; (first | done | rfl))
    | refine g_skT ?_ | refine g_skF ?_
    | ((first | apply g_goT | apply g_goF); · simp only [go_sem, Nat.reduceEqDiff, Nat.reduceAdd, Nat.reduceLeDiff, hi, hx', ba_data, ba_size, ba_toList, ba_extract, ba_append, List.toList_toArray, bound, b1, e2, b2, Int.toNat_natCast]; (first | done | rfl))
    | (refine w_condT ?_ ?_; · simp only [go_sem, Nat.reduceEqDiff, Nat.reduceAdd, Nat.reduceLeDiff, hi, hx', ba_data, ba_size, ba_toList, ba_extract, ba_append, List.toList_toArray, bound, b1, e2, b2, Int.toNat_natCast]; (first | done | rfl))
    | (refine w_condF ?_ ?_; · simp only [go_sem, Nat.reduceEqDiff, Nat.reduceAdd, Nat.reduceLeDiff, hi, hx', ba_data, ba_size, ba_toList, ba_extract, ba_append, List.toList_toArray, bound, b1, e2, b2, Int.toNat_natCast]; (first | done | rfl))
    | refine w_skip ?_ | refine w_exit ?_ | refine w_ret ?_
    | fail
    )
    have hd : (s.take s.length).drop (i + t.length) = s.drop (i + t.length) := by rw [List.take_of_length_le (Nat.le_refl _)]
    exact ⟨by first | exact .inr rfl | exact .inr trivial | exact .inl rfl, by simp only [go_sem, Nat.reduceEqDiff, Nat.reduceAdd, Nat.reduceLeDiff, retOf, resOf, hc, hd, List.drop_zero, Int.toNat_natCast]; first | done | rfl⟩
  · have hx' : decide (Lib.index s t ≥ 0) = false := by simpa using hx
    rw [if_neg hx] at hc
    (repeat' first
    | refine w_seq ?_ | refine w_rg ?_ | refine wo_nil ?_ | refine g_skU ?_
    | ((first | apply s_plain | apply s_void | apply s_guard); · simp only [go_sem, Nat.reduceEqDiff, Nat.reduceAdd, Nat.reduceLeDiff, hx']; (first | done | rfl))
    | ((first | apply g_T | apply g_F); · intro hb; simp only [go_sem, Nat.reduceEqDiff, Nat.reduceAdd, Nat.reduceLeDiff, hx', hb]; (first | done | rfl))
    | ((first | apply g_gT | apply g_gF); · intro hb hc; simp only [go_sem, Nat.reduceEqDiff, Nat.reduceAdd, Nat.reduceLeDiff, hx', hb, hc]; (first | done | rfl))
    | refine g_skT ?_ | refine g_skF ?_
    | ((first | apply g_goT | apply g_goF); · simp only [go_sem, Nat.reduceEqDiff, Nat.reduceAdd, Nat.reduceLeDiff, hx']; (first | done | rfl))
    | (refine w_condT ?_ ?_; · simp only [go_sem, Nat.reduceEqDiff, Nat.reduceAdd, Nat.reduceLeDiff, hx']; (first | done | rfl))
    | (refine w_condF ?_ ?_; · simp only [go_sem, Nat.reduceEqDiff, Nat.reduceAdd, Nat.reduceLeDiff, hx']; (first | done | rfl))
    | refine w_skip ?_ | refine w_exit ?_ | refine w_ret ?_
    | fail
    )
    exact ⟨by first | exact .inr rfl | exact .inr trivial | exact .inl rfl, by simp only [go_sem, Nat.reduceEqDiff, Nat.reduceAdd, Nat.reduceLeDiff, retOf, resOf, hc]; first | done | rfl⟩
theorem a39 (C : Has lca env) {s t : List UInt8} (hs : s.length < 4294967281) (ht : t.length < 4294967281) : AV env 39 [txt s, txt t] = some (.tu [txt (Lib.cut s t).1, txt (Lib.cut s t).2.1, .sc (.bool (Lib.cut s t).2.2)]) := by
  have h := a57 C hs ht
  refine AV_wp (C (39, d39) (by simp [lca])) rfl ?_
  (repeat' first
    | refine w_seq ?_ | refine w_rg ?_ | refine wo_nil ?_ | refine g_skU ?_
    | ((first | apply s_plain | apply s_void | apply s_guard); · simp only [go_sem, Nat.reduceEqDiff, Nat.reduceAdd, Nat.reduceLeDiff, h]; (first | done | rfl))
    | ((first | apply g_T | apply g_F); · intro hb; simp only [go_sem, Nat.reduceEqDiff, Nat.reduceAdd, Nat.reduceLeDiff, h, hb]; (first | done | rfl))
    | ((first | apply g_gT | apply g_gF); · intro hb hc; simp only [go_sem, Nat.reduceEqDiff, Nat.reduceAdd, Nat.reduceLeDiff, h, hb, hc]; (first | done | rfl))
    | refine g_skT ?_ | refine g_skF ?_
    | ((first | apply g_goT | apply g_goF); · simp only [go_sem, Nat.reduceEqDiff, Nat.reduceAdd, Nat.reduceLeDiff, h]; (first | done | rfl))
    | (refine w_condT ?_ ?_; · simp only [go_sem, Nat.reduceEqDiff, Nat.reduceAdd, Nat.reduceLeDiff, h]; (first | done | rfl))
    | (refine w_condF ?_ ?_; · simp only [go_sem, Nat.reduceEqDiff, Nat.reduceAdd, Nat.reduceLeDiff, h]; (first | done | rfl))
    | refine w_skip ?_ | refine w_exit ?_ | refine w_ret ?_
    | fail
    )
  exact ⟨by first | exact .inr rfl | exact .inr trivial | exact .inl rfl, by simp only [go_sem, Nat.reduceEqDiff, Nat.reduceAdd, Nat.reduceLeDiff, retOf, resOf]; first | done | rfl⟩
theorem a89 (C : Has lcb env) {s t : List UInt8} : AV env 89 [txt s, txt t] = some (.sc (.bool (t.isPrefixOf s))) := by
  refine AV_wp (C (89, d89) (by simp [lcb])) rfl ?_
  (repeat' first
    | refine w_seq ?_ | refine w_rg ?_ | refine wo_nil ?_ | refine g_skU ?_
    | ((first | apply s_plain | apply s_void | apply s_guard); · simp only [go_sem, Nat.reduceEqDiff, Nat.reduceAdd, Nat.reduceLeDiff, ba_data, ba_size, ba_toList, ba_extract, ba_append, List.toList_toArray]; (first | done | rfl))
    | ((first | apply g_T | apply g_F); · intro hb; simp only [go_sem, Nat.reduceEqDiff, Nat.reduceAdd, Nat.reduceLeDiff, ba_data, ba_size, ba_toList, ba_extract, ba_append, List.toList_toArray, hb]; (first | done | rfl))
    | ((first | apply g_gT | apply g_gF); · intro hb hc; simp only [go_sem, Nat.reduceEqDiff, Nat.reduceAdd, Nat.reduceLeDiff, ba_data, ba_size, ba_toList, ba_extract, ba_append, List.toList_toArray, hb, hc]; (first | done | rfl))
    | refine g_skT ?_ | refine g_skF ?_
    | ((first | apply g_goT | apply g_goF); · simp only [go_sem, Nat.reduceEqDiff, Nat.reduceAdd, Nat.reduceLeDiff, ba_data, ba_size, ba_toList, ba_extract, ba_append, List.toList_toArray]; (first | done | rfl))
    | fail
    )
  refine g_T (v := txt (s.take t.length)) (by
    intro hb
    have hb' : t.length ≤ s.length := by simpa using hb
    have b1 : (0 : Int) ≤ (t.length : Int) ∧ (t.length : Int) ≤ (s.length : Int) := by omega
    simp only [go_sem, Nat.reduceEqDiff, Nat.reduceAdd, Nat.reduceLeDiff, ba_data, ba_size, ba_toList, ba_extract, ba_append, List.toList_toArray, bound, b1, Int.toNat_natCast, List.drop_zero]) ?_
  (repeat' first
    | refine w_seq ?_ | refine w_rg ?_ | refine wo_nil ?_ | refine g_skU ?_
    | ((first | apply s_plain | apply s_void | apply s_guard); · simp only [go_sem, Nat.reduceEqDiff, Nat.reduceAdd, Nat.reduceLeDiff, ba_data, ba_size, ba_toList, ba_extract, ba_append, List.toList_toArray]; (first | done | rfl))
    | ((first | apply g_T | apply g_F); · intro hb; simp only [go_sem, Nat.reduceEqDiff, Nat.reduceAdd, Nat.reduceLeDiff, ba_data, ba_size, ba_toList, ba_extract, ba_append, List.toList_toArray, hb]; (first | done | rfl))
    | ((first | apply g_gT | apply g_gF); · intro hb hc; simp only [go_sem, Nat.reduceEqDiff, Nat.reduceAdd, Nat.reduceLeDiff, ba_data, ba_size, ba_toList, ba_extract, ba_append, List.toList_toArray, hb, hc]; (first | done | rfl))
    | refine g_skT ?_ | refine g_skF ?_
    | ((first | apply g_goT | apply g_goF); · simp only [go_sem, Nat.reduceEqDiff, Nat.reduceAdd, Nat.reduceLeDiff, ba_data, ba_size, ba_toList, ba_extract, ba_append, List.toList_toArray]; (first | done | rfl))
    | (refine w_condT ?_ ?_; · simp only [go_sem, Nat.reduceEqDiff, Nat.reduceAdd, Nat.reduceLeDiff, ba_data, ba_size, ba_toList, ba_extract, ba_append, List.toList_toArray]; (first | done | rfl))
    | (refine w_condF ?_ ?_; · simp only [go_sem, Nat.reduceEqDiff, Nat.reduceAdd, Nat.reduceLeDiff, ba_data, ba_size, ba_toList, ba_extract, ba_append, List.toList_toArray]; (first | done | rfl))
    | refine w_skip ?_ | refine w_exit ?_ | refine w_ret ?_
    | fail
    )
  have e : (decide ((s.length : Int) ≥ (t.length : Int)) && (s.take t.length == t)) = t.isPrefixOf s := by
    rw [Bool.eq_iff_iff]
    simp only [Bool.and_eq_true, decide_eq_true_eq, beq_iff_eq, List.isPrefixOf_iff_prefix, List.prefix_iff_eq_take]
    constructor
    · exact fun h => h.2.symm
    · intro h
      have := congrArg List.length h
      rw [List.length_take] at this
      exact ⟨by omega, h.symm⟩
  exact ⟨by first | exact .inr rfl | exact .inr trivial | exact .inl rfl, by simp only [go_sem, Nat.reduceEqDiff, Nat.reduceAdd, Nat.reduceLeDiff, retOf, resOf, e]; first | done | rfl⟩
/-- What is behind a beginning. -/
def cutPre (s t : List UInt8) : List UInt8 := if t.isPrefixOf s then s.drop t.length else s
theorem a71 (C : Has lcb env) {s t : List UInt8} : AV env 71 [txt s, txt t] = some (.tu [txt (cutPre s t), .sc (.bool (t.isPrefixOf s))]) := by
  have h := a89 C (s := s) (t := t)
  refine AV_wp (C (71, d71) (by simp [lcb])) rfl ?_
  (repeat' first
    | refine w_seq ?_ | refine w_rg ?_ | refine wo_nil ?_ | refine g_skU ?_
    | ((first | apply s_plain | apply s_void | apply s_guard); · simp only [go_sem, Nat.reduceEqDiff, Nat.reduceAdd, Nat.reduceLeDiff, h]; (first | done | rfl))
    | ((first | apply g_T | apply g_F); · intro hb; simp only [go_sem, Nat.reduceEqDiff, Nat.reduceAdd, Nat.reduceLeDiff, h, hb]; (first | done | rfl))
    | ((first | apply g_gT | apply g_gF); · intro hb hc; simp only [go_sem, Nat.reduceEqDiff, Nat.reduceAdd, Nat.reduceLeDiff, h, hb, hc]; (first | done | rfl))
    | refine g_skT ?_ | refine g_skF ?_
    | ((first | apply g_goT | apply g_goF); · simp only [go_sem, Nat.reduceEqDiff, Nat.reduceAdd, Nat.reduceLeDiff, h]; (first | done | rfl))
    | fail
    )
  cases hp : t.isPrefixOf s with
  | false =>
    (repeat' first
    | refine w_seq ?_ | refine w_rg ?_ | refine wo_nil ?_ | refine g_skU ?_
    | ((first | apply s_plain | apply s_void | apply s_guard); · simp only [go_sem, Nat.reduceEqDiff, Nat.reduceAdd, Nat.reduceLeDiff]; (first | done | rfl))
    | ((first | apply g_T | apply g_F); · intro hb; simp only [go_sem, Nat.reduceEqDiff, Nat.reduceAdd, Nat.reduceLeDiff, hb]; (first | done | rfl))
    | ((first | apply g_gT | apply g_gF); · intro hb hc; simp only [go_sem, Nat.reduceEqDiff, Nat.reduceAdd, Nat.reduceLeDiff, hb, hc]; (first | done | rfl))
    | refine g_skT ?_ | refine g_skF ?_
    | ((first | apply g_goT | apply g_goF); · simp only [go_sem, Nat.reduceEqDiff, Nat.reduceAdd, Nat.reduceLeDiff]; (first | done | rfl))
    | (refine w_condT ?_ ?_; · simp only [go_sem, Nat.reduceEqDiff, Nat.reduceAdd, Nat.reduceLeDiff]; (first | done | rfl))
    | (refine w_condF ?_ ?_; · simp only [go_sem, Nat.reduceEqDiff, Nat.reduceAdd, Nat.reduceLeDiff]; (first | done | rfl))
    | refine w_skip ?_ | refine w_exit ?_ | refine w_ret ?_
    | fail
    )
    exact ⟨by first | exact .inr rfl | exact .inr trivial | exact .inl rfl, by simp only [go_sem, Nat.reduceEqDiff, Nat.reduceAdd, Nat.reduceLeDiff, retOf, resOf, cutPre, hp]; first | done | rfl⟩
  | true =>
    have hle : t.length ≤ s.length := by
      rw [List.isPrefixOf_iff_prefix] at hp
      exact hp.length_le
    have b1 : (0 : Int) ≤ (t.length : Int) ∧ (t.length : Int) ≤ (s.length : Int) := by omega
    have hd : (s.take s.length).drop t.length = s.drop t.length := by rw [List.take_of_length_le (Nat.le_refl _)]
    (repeat' first
    | refine w_seq ?_ | refine w_rg ?_ | refine wo_nil ?_ | refine g_skU ?_
    | ((first | apply s_plain | apply s_void | apply s_guard); · simp only [go_sem, Nat.reduceEqDiff, Nat.reduceAdd, Nat.reduceLeDiff, ba_data, ba_size, ba_toList, ba_extract, ba_append, List.toList_toArray, bound, b1, Int.toNat_natCast]; (first | done | rfl))
    | ((first | apply g_T | apply g_F); · intro hb; simp only [go_sem, Nat.reduceEqDiff, Nat.reduceAdd, Nat.reduceLeDiff, ba_data, ba_size, ba_toList, ba_extract, ba_append, List.toList_toArray, bound, b1, Int.toNat_natCast, hb]; (first | done | rfl))
    | ((first | apply g_gT | apply g_gF); · intro hb hc; simp only [go_sem, Nat.reduceEqDiff, Nat.reduceAdd, Nat.reduceLeDiff, ba_data, ba_size, ba_toList, ba_extract, ba_append, List.toList_toArray, bound, b1, Int.toNat_natCast, hb, hc]; (first | done | rfl))
    | refine g_skT ?_ | refine g_skF ?_
    | ((first | apply g_goT | apply g_goF); · simp only [go_sem, Nat.reduceEqDiff, Nat.reduceAdd, Nat.reduceLeDiff, ba_data, ba_size, ba_toList, ba_extract, ba_append, List.toList_toArray, bound, b1, Int.toNat_natCast]; (first | done | rfl))
    | (refine w_condT ?_ ?_; · simp only [go_sem, Nat.reduceEqDiff, Nat.reduceAdd, Nat.reduceLeDiff, ba_data, ba_size, ba_toList, ba_extract, ba_append, List.toList_toArray, bound, b1, Int.toNat_natCast]; (first | done | rfl))
    | (refine w_condF ?_ ?_; · simp only [go_sem, Nat.reduceEqDiff, Nat.reduceAdd, Nat.reduceLeDiff, ba_data, ba_size, ba_toList, ba_extract, ba_append, List.toList_toArray, bound, b1, Int.toNat_natCast]; (first | done | rfl))
    | refine w_skip ?_ | refine w_exit ?_ | refine w_ret ?_
    | fail
    )
    exact ⟨by first | exact .inr rfl | exact .inr trivial | exact .inl rfl, by simp only [go_sem, Nat.reduceEqDiff, Nat.reduceAdd, Nat.reduceLeDiff, retOf, resOf, cutPre, hp, hd]; first | done | rfl⟩
theorem a54 (C : Has lcb env) {s t : List UInt8} : AV env 54 [txt s, txt t] = some (.tu [txt (cutPre s t), .sc (.bool (t.isPrefixOf s))]) := by
  have h := a71 C (s := s) (t := t)
  refine AV_wp (C (54, d54) (by simp [lcb])) rfl ?_
  (repeat' first
    | refine w_seq ?_ | refine w_rg ?_ | refine wo_nil ?_ | refine g_skU ?_
    | ((first | apply s_plain | apply s_void | apply s_guard); · simp only [go_sem, Nat.reduceEqDiff, Nat.reduceAdd, Nat.reduceLeDiff, h]; (first | done | rfl))
    | ((first | apply g_T | apply g_F); · intro hb; simp only [go_sem, Nat.reduceEqDiff, Nat.reduceAdd, Nat.reduceLeDiff, h, hb]; (first | done | rfl))
    | ((first | apply g_gT | apply g_gF); · intro hb hc; simp only [go_sem, Nat.reduceEqDiff, Nat.reduceAdd, Nat.reduceLeDiff, h, hb, hc]; (first | done | rfl))
    | refine g_skT ?_ | refine g_skF ?_
    | ((first | apply g_goT | apply g_goF); · simp only [go_sem, Nat.reduceEqDiff, Nat.reduceAdd, Nat.reduceLeDiff, h]; (first | done | rfl))
    | (refine w_condT ?_ ?_; · simp only [go_sem, Nat.reduceEqDiff, Nat.reduceAdd, Nat.reduceLeDiff, h]; (first | done | rfl))
    | (refine w_condF ?_ ?_; · simp only [go_sem, Nat.reduceEqDiff, Nat.reduceAdd, Nat.reduceLeDiff, h]; (first | done | rfl))
    | refine w_skip ?_ | refine w_exit ?_ | refine w_ret ?_
    | fail
    )
  exact ⟨by first | exact .inr rfl | exact .inr trivial | exact .inl rfl, by simp only [go_sem, Nat.reduceEqDiff, Nat.reduceAdd, Nat.reduceLeDiff, retOf, resOf]; first | done | rfl⟩
end
end Go.Proofs.YtdlfomiclkpibaaDoorPv
namespace Go.Proofs.YtdlfomiclkpibaaDoorPv
open Go
set_option linter.unusedSimpArgs false
set_option linter.unusedVariables false
set_option maxHeartbeats 4000000
attribute [local go_sem ↓] e_mv e_pick e_bin e_eqs e_beq e_un e_cvi e_str e_s2b e_b2s e_box e_build e_bsl e_ld e_st e_nck e_mkf e_slcS e_slcL e_fa e_fld e_ia e_iaa e_ix e_ixa e_ext e_lenS e_lenL e_mnmx e_app e_appb e_bbx e_msl e_clr e_call e_callv pa_t pa_c pa_f slcSP_str hiOf_some hiOf_none loOf_some loOf_none set_eq set_ne
attribute [local go_sem] pv pv1 simple frOf_0 frOf_1 frOf_2 frOf_3 frOf_4 frOf_5 ne_eq not_false_eq_true if_true Bool.false_eq_true if_false pbin punary Option.map_some Option.bind_some pick_and pick_or opt_true Bool.true_and Bool.and_self Bool.and_true Bool.true_or Bool.false_or Bool.not_true Bool.not_false callE pcall_eq List.map_cons List.map_nil List.append_nil List.nil_append List.cons_append mapM_cons' mapM_nil' dep_eq fz_sc fz_sl fz_em fz_fn fz_fp fz_agg fz_tu fz_bx fz_ob Nat.lt_irrefl Nat.zero_lt_one Nat.lt_add_one flat clL cl Bool.or_true okc_sc okc_em okc_sl okc_ob okc_bx okc_fp okc_fn okc_agg okc_ifc cells_agg cells_sc cells_sl cells_em cells_ob cells_fn cells_bx cells_fp List.length_cons List.length_nil Nat.zero_add and_self true_and and_true new_m new_c put_m put_c nil_m nil_c deref List.getElem?_cons_zero List.getElem?_cons_succ List.drop_zero List.drop_succ_cons List.take_succ_cons List.take_zero Nat.le_refl false_and and_false decide_true decide_false lenP_em lenP_nil lenP_sl lenP_ob Int.ofNat_zero
set_option maxRecDepth 8000
/-- slices.IndexFunc, of elements of es cells. -/
def dIdxF (es : Nat) (sz : Option Nat) : Def := (.code 2 [.tmp 4] (.seq (.rg false [⟨.some 4, .none, .mv (.c (.int .i64 0))⟩]) (.seq (.seq (.rg false [⟨.some 6, .none, .mv (.t 0)⟩, ⟨.some 7, .none, .lenL (.t 6)⟩, ⟨.some 8, .none, .mv (.c (.int .i64 0))⟩]) (.block 0 (.loop (.seq (.rg false [⟨.some 9, .none, .bin .lss (.t 8) (.t 7)⟩]) (.seq (.cond (.t 9) .skip (.exit 0)) (.seq (.block 1 (.seq (.rg false [⟨.some 10, .none, .mv (.t 8)⟩, ⟨.some 5, .none, .mv (.t 10)⟩]) (.seq (.rg false [⟨.some 11, .none, .mv (.t 1)⟩, ⟨.some 12, .none, .mv (.t 0)⟩, ⟨.some 13, .none, .mv (.t 5)⟩, ⟨.some 14, .none, .ia es (.t 12) (.t 13)⟩, ⟨.some 15, .none, .ld sz (.t 14)⟩, ⟨.some 16, .none, .callv (.t 11) .pure [.t 15]⟩]) (.cond (.t 16) (.seq (.rg false [⟨.some 17, .none, .mv (.t 5)⟩, ⟨.some 4, .none, .mv (.t 17)⟩]) .ret) .skip)))) (.rg false [⟨.some 18, .none, .bin .add (.t 8) (.c (.int .i64 1))⟩, ⟨.some 8, .none, .mv (.t 18)⟩]))))))) (.seq (.rg false [⟨.some 4, .none, .mv (.c (.int .i64 (-1)))⟩]) .ret))))
/-- slices.ContainsFunc, by IndexFunc of number k. -/
def dConF (k : Nat) : Def := (.code 2 [.tmp 4] (.seq (.rg false [⟨.some 4, .none, .mv (.c (.bool false))⟩]) (.seq (.rg false [⟨.some 5, .none, .mv (.t 0)⟩, ⟨.some 6, .none, .mv (.t 1)⟩, ⟨.some 7, .none, .call k .pure [.t 5, .t 6]⟩, ⟨.some 8, .none, .bin .geq (.t 7) (.c (.int .i64 0))⟩, ⟨.some 4, .none, .mv (.t 8)⟩]) .ret)))
section
variable {env : Nat → Option Def} {fr : Fr} {σ σ' σ'' : St} {K : Fr → St → Prop} {Q : X → Fr → St → Prop} {p : PV} {bs : List UInt8}
/-- What is loaded of an element. -/
def ldE (sz : Option Nat) (e : PV) : Option PV := match sz with
  | none => (cellsOf e)[0]?
  | some n => if 0 + n ≤ (cellsOf e).length then some (.agg (((cellsOf e).drop 0).take n)) else none
/-- Elements that are loaded as they stand, of es cells. -/
def Elems (es : Nat) (sz : Option Nat) (xs : List PV) : Prop := ∀ (i : Nat) e, xs[i]? = some e → (cellsOf e).length = es ∧ ldE sz e = some e
theorem e_ldE (E : Ev) (s : Nat) (fr : Fr) (σ : St) (sz : Option Nat) (a : PA) {xs : List PV} {i : Nat} {e : PV} (ha : pa fr a = .fp xs i 0) (he : xs[i]? = some e) (hl : ldE sz e = some e) : evO E s fr σ (.ld sz a) = some (e, σ) := by
  simp only [evO, ha, deref, he, Option.map_some, Option.bind_some]
  unfold ldE at hl
  cases sz with
  | none => simp only at hl ⊢; rw [hl]; rfl
  | some n =>
    simp only at hl ⊢
    split at hl
    · rename_i hn
      rw [if_pos hn]
      simp only [Option.some.injEq] at hl
      rw [hl]
    · cases hl
theorem idxF_g {k0 es : Nat} {sz : Option Nat} (hk0 : env k0 = some (dIdxF es sz)) {xs : List PV} {k : Nat} {a b : List PV} {q : Nat → Bool} (hn : xs.length ≤ 9223372036854775807) (hE : Elems es sz xs)
    (hz : ∀ (i : Nat) e, xs[i]? = some e → ∀ σ, (a ++ [e] ++ b).mapM (fz σ 12) = some (a ++ [e] ++ b)) (hp : ∀ (i : Nat) e, xs[i]? = some e → AV env k (a ++ [e] ++ b) = some (.sc (.bool (q i)))) :
    AV env k0 [.sl xs, .fn k a b] = some (.sc (.int .i64 (found q xs.length))) := by
  refine AV_wp hk0 rfl ?_
  (repeat' first
    | refine w_seq ?_ | refine w_rg ?_ | refine wo_nil ?_ | refine g_skU ?_
    | ((first | apply s_plain | apply s_void | apply s_guard); · simp only [go_sem, Nat.reduceEqDiff, Nat.reduceAdd, Nat.reduceLeDiff]; (first | done | rfl))
    | ((first | apply g_T | apply g_F); · intro hb; simp only [go_sem, Nat.reduceEqDiff, Nat.reduceAdd, Nat.reduceLeDiff, hb]; (first | done | rfl))
    | ((first | apply g_gT | apply g_gF); · intro hb hc; simp only [go_sem, Nat.reduceEqDiff, Nat.reduceAdd, Nat.reduceLeDiff, hb, hc]; (first | done | rfl))
    | refine g_skT ?_ | refine g_skF ?_
    | ((first | apply g_goT | apply g_goF); · simp only [go_sem, Nat.reduceEqDiff, Nat.reduceAdd, Nat.reduceLeDiff]; (first | done | rfl))
    | fail
    )
  refine w_block (w_rangeF xs.length hn (fun i fr σ => ∀ j, j < i → q j = false) ⟨by decide, rfl, rfl⟩ (fun _ _ _ _ h => ⟨h, h, h⟩) (fun j hj => by omega) (by simp only [go_sem, Nat.reduceEqDiff, Nat.reduceAdd, Nat.reduceLeDiff]; first | done | rfl) (by simp only [go_sem, Nat.reduceEqDiff, Nat.reduceAdd, Nat.reduceLeDiff]; first | done | rfl) ?_ ?_)
  · rintro i fr1 σ1 hi h3 hti hfr
    have f0_0 := hfr 0 rfl; have f0_1 := hfr 1 rfl; have f0_7 := hfr 7 rfl; try (simp only [go_sem, Nat.reduceEqDiff, Nat.reduceAdd, Nat.reduceLeDiff] at f0_0); try (simp only [go_sem, Nat.reduceEqDiff, Nat.reduceAdd, Nat.reduceLeDiff] at f0_1); try (simp only [go_sem, Nat.reduceEqDiff, Nat.reduceAdd, Nat.reduceLeDiff] at f0_7)
    have hx := List.getElem?_eq_getElem hi
    have e1 : (0 : Int) ≤ (i : Int) ∧ (i : Int) < (xs.length : Int) := by omega
    refine w_block ?_
    obtain ⟨hc, hl⟩ := hE i _ hx
    have hz' := hz i _ hx
    have hp' := hp i _ hx
    simp only [List.append_assoc, List.cons_append, List.nil_append] at hz' hp'
    (repeat' first
    | refine w_seq ?_ | refine w_rg ?_ | refine wo_nil ?_ | refine g_skU ?_
    | ((first | apply s_plain | apply s_void | apply s_guard); · simp only [go_sem, Nat.reduceEqDiff, Nat.reduceAdd, Nat.reduceLeDiff, f0_0, f0_1, f0_7, hti, e1, Int.toNat_natCast, hx, hc, List.append_assoc]; (first | done | rfl))
    | ((first | apply g_T | apply g_F); · intro hb; simp only [go_sem, Nat.reduceEqDiff, Nat.reduceAdd, Nat.reduceLeDiff, f0_0, f0_1, f0_7, hti, e1, Int.toNat_natCast, hx, hc, List.append_assoc, hb]; (first | done | rfl))
    | ((first | apply g_gT | apply g_gF); · intro hb hc; simp only [go_sem, Nat.reduceEqDiff, Nat.reduceAdd, Nat.reduceLeDiff, f0_0, f0_1, f0_7, hti, e1, Int.toNat_natCast, hx, hc, List.append_assoc, hb, hc]; (first | done | rfl))
    | refine g_skT ?_ | refine g_skF ?_
    | ((first | apply g_goT | apply g_goF); · simp only [go_sem, Nat.reduceEqDiff, Nat.reduceAdd, Nat.reduceLeDiff, f0_0, f0_1, f0_7, hti, e1, Int.toNat_natCast, hx, hc, List.append_assoc]; (first | done | rfl))
    | fail
    )
    refine s_plain (e_ldE _ _ _ _ _ _ (xs := xs) (i := i) (by simp only [go_sem, Nat.reduceEqDiff, Nat.reduceAdd, Nat.reduceLeDiff]) hx hl) ?_
    (repeat' first
    | refine w_seq ?_ | refine w_rg ?_ | refine wo_nil ?_ | refine g_skU ?_
    | ((first | apply s_plain | apply s_void | apply s_guard); · simp only [go_sem, Nat.reduceEqDiff, Nat.reduceAdd, Nat.reduceLeDiff, List.append_assoc, hz', hp']; (first | done | rfl))
    | ((first | apply g_T | apply g_F); · intro hb; simp only [go_sem, Nat.reduceEqDiff, Nat.reduceAdd, Nat.reduceLeDiff, List.append_assoc, hz', hp', hb]; (first | done | rfl))
    | ((first | apply g_gT | apply g_gF); · intro hb hc; simp only [go_sem, Nat.reduceEqDiff, Nat.reduceAdd, Nat.reduceLeDiff, List.append_assoc, hz', hp', hb, hc]; (first | done | rfl))
    | refine g_skT ?_ | refine g_skF ?_
    | ((first | apply g_goT | apply g_goF); · simp only [go_sem, Nat.reduceEqDiff, Nat.reduceAdd, Nat.reduceLeDiff, List.append_assoc, hz', hp']; (first | done | rfl))
    | fail
    )
    cases hpi : q i with
    | true =>
      (repeat' first
    | refine w_seq ?_ | refine w_rg ?_ | refine wo_nil ?_ | refine g_skU ?_
    | ((first | apply s_plain | apply s_void | apply s_guard); · simp only [go_sem, Nat.reduceEqDiff, Nat.reduceAdd, Nat.reduceLeDiff]; (first | done | rfl))
    | ((first | apply g_T | apply g_F); · intro hb; simp only [go_sem, Nat.reduceEqDiff, Nat.reduceAdd, Nat.reduceLeDiff, hb]; (first | done | rfl))
    | ((first | apply g_gT | apply g_gF); · intro hb hc; simp only [go_sem, Nat.reduceEqDiff, Nat.reduceAdd, Nat.reduceLeDiff, hb, hc]; (first | done | rfl))
    | refine g_skT ?_ | refine g_skF ?_
    | ((first | apply g_goT | apply g_goF); · simp only [go_sem, Nat.reduceEqDiff, Nat.reduceAdd, Nat.reduceLeDiff]; (first | done | rfl))
    | (refine w_condT ?_ ?_; · simp only [go_sem, Nat.reduceEqDiff, Nat.reduceAdd, Nat.reduceLeDiff]; (first | done | rfl))
    | (refine w_condF ?_ ?_; · simp only [go_sem, Nat.reduceEqDiff, Nat.reduceAdd, Nat.reduceLeDiff]; (first | done | rfl))
    | refine w_skip ?_ | refine w_exit ?_ | refine w_ret ?_
    | fail
    )
      exact ⟨by first | exact .inr rfl | exact .inr trivial | exact .inl rfl, by simp only [go_sem, Nat.reduceEqDiff, Nat.reduceAdd, Nat.reduceLeDiff, retOf, resOf, found_hit hi h3 hpi]; first | done | rfl⟩
    | false =>
      (repeat' first
    | refine w_seq ?_ | refine w_rg ?_ | refine wo_nil ?_ | refine g_skU ?_
    | ((first | apply s_plain | apply s_void | apply s_guard); · simp only [go_sem, Nat.reduceEqDiff, Nat.reduceAdd, Nat.reduceLeDiff]; (first | done | rfl))
    | ((first | apply g_T | apply g_F); · intro hb; simp only [go_sem, Nat.reduceEqDiff, Nat.reduceAdd, Nat.reduceLeDiff, hb]; (first | done | rfl))
    | ((first | apply g_gT | apply g_gF); · intro hb hc; simp only [go_sem, Nat.reduceEqDiff, Nat.reduceAdd, Nat.reduceLeDiff, hb, hc]; (first | done | rfl))
    | refine g_skT ?_ | refine g_skF ?_
    | ((first | apply g_goT | apply g_goF); · simp only [go_sem, Nat.reduceEqDiff, Nat.reduceAdd, Nat.reduceLeDiff]; (first | done | rfl))
    | (refine w_condT ?_ ?_; · simp only [go_sem, Nat.reduceEqDiff, Nat.reduceAdd, Nat.reduceLeDiff]; (first | done | rfl))
    | (refine w_condF ?_ ?_; · simp only [go_sem, Nat.reduceEqDiff, Nat.reduceAdd, Nat.reduceLeDiff]; (first | done | rfl))
    | refine w_skip ?_ | refine w_exit ?_ | refine w_ret ?_
    | fail
    )
      intro j hj
      by_cases hji : j = i
      · rw [hji]; exact hpi
      · exact h3 j (by omega)
  · rintro fr1 σ1 h3 hfr
    try simp only [if_true]
    (repeat' first
    | refine w_seq ?_ | refine w_rg ?_ | refine wo_nil ?_ | refine g_skU ?_
    | ((first | apply s_plain | apply s_void | apply s_guard); · simp only [go_sem, Nat.reduceEqDiff, Nat.reduceAdd, Nat.reduceLeDiff]; (first | done | rfl))
    | ((first | apply g_T | apply g_F); · intro hb; simp only [go_sem, Nat.reduceEqDiff, Nat.reduceAdd, Nat.reduceLeDiff, hb]; (first | done | rfl))
    | ((first | apply g_gT | apply g_gF); · intro hb hc; simp only [go_sem, Nat.reduceEqDiff, Nat.reduceAdd, Nat.reduceLeDiff, hb, hc]; (first | done | rfl))
    | refine g_skT ?_ | refine g_skF ?_
    | ((first | apply g_goT | apply g_goF); · simp only [go_sem, Nat.reduceEqDiff, Nat.reduceAdd, Nat.reduceLeDiff]; (first | done | rfl))
    | (refine w_condT ?_ ?_; · simp only [go_sem, Nat.reduceEqDiff, Nat.reduceAdd, Nat.reduceLeDiff]; (first | done | rfl))
    | (refine w_condF ?_ ?_; · simp only [go_sem, Nat.reduceEqDiff, Nat.reduceAdd, Nat.reduceLeDiff]; (first | done | rfl))
    | refine w_skip ?_ | refine w_exit ?_ | refine w_ret ?_
    | fail
    )
    exact ⟨by first | exact .inr rfl | exact .inr trivial | exact .inl rfl, by simp only [go_sem, Nat.reduceEqDiff, Nat.reduceAdd, Nat.reduceLeDiff, retOf, resOf, found_none h3]; first | done | rfl⟩
theorem conF_g {k0 k1 : Nat} (hk1 : env k1 = some (dConF k0)) {xs : List PV} {k : Nat} {a b : List PV} {n : Int} (ha : ∀ σ, a.mapM (fz σ 11) = some a) (hb : ∀ σ, b.mapM (fz σ 11) = some b) (h : AV env k0 [.sl xs, .fn k a b] = some (.sc (.int .i64 n))) :
    AV env k1 [.sl xs, .fn k a b] = some (.sc (.bool (decide (n ≥ 0)))) := by
  refine AV_wp hk1 rfl ?_
  (repeat' first
    | refine w_seq ?_ | refine w_rg ?_ | refine wo_nil ?_ | refine g_skU ?_
    | ((first | apply s_plain | apply s_void | apply s_guard); · simp only [go_sem, Nat.reduceEqDiff, Nat.reduceAdd, Nat.reduceLeDiff, h, ha, hb]; (first | done | rfl))
    | ((first | apply g_T | apply g_F); · intro hb; simp only [go_sem, Nat.reduceEqDiff, Nat.reduceAdd, Nat.reduceLeDiff, h, ha, hb, hb]; (first | done | rfl))
    | ((first | apply g_gT | apply g_gF); · intro hb hc; simp only [go_sem, Nat.reduceEqDiff, Nat.reduceAdd, Nat.reduceLeDiff, h, ha, hb, hb, hc]; (first | done | rfl))
    | refine g_skT ?_ | refine g_skF ?_
    | ((first | apply g_goT | apply g_goF); · simp only [go_sem, Nat.reduceEqDiff, Nat.reduceAdd, Nat.reduceLeDiff, h, ha, hb]; (first | done | rfl))
    | (refine w_condT ?_ ?_; · simp only [go_sem, Nat.reduceEqDiff, Nat.reduceAdd, Nat.reduceLeDiff, h, ha, hb]; (first | done | rfl))
    | (refine w_condF ?_ ?_; · simp only [go_sem, Nat.reduceEqDiff, Nat.reduceAdd, Nat.reduceLeDiff, h, ha, hb]; (first | done | rfl))
    | refine w_skip ?_ | refine w_exit ?_ | refine w_ret ?_
    | fail
    )
  exact ⟨by first | exact .inr rfl | exact .inr trivial | exact .inl rfl, by simp only [go_sem, Nat.reduceEqDiff, Nat.reduceAdd, Nat.reduceLeDiff, retOf, resOf]; first | done | rfl⟩
theorem found_any {α : Type} {l : List α} {q : Nat → Bool} {f : α → Bool} (h : ∀ i x, l[i]? = some x → q i = f x) : decide (found q l.length ≥ 0) = l.any f := by
  rw [Bool.eq_iff_iff, decide_eq_true_iff, List.any_eq_true]
  unfold found
  constructor
  · intro h0
    cases hf : (List.range l.length).find? q with
    | none => rw [hf] at h0; simp at h0
    | some i =>
      have hi : i < l.length := by simpa using List.mem_of_find?_eq_some hf
      exact ⟨l[i], List.getElem_mem hi, by rw [← h i _ (List.getElem?_eq_getElem hi)]; exact List.find?_some hf⟩
  · rintro ⟨x, hx, hfx⟩
    obtain ⟨i, hi⟩ := List.getElem?_of_mem hx
    cases hf : (List.range l.length).find? q with
    | none =>
      have := List.find?_eq_none.1 hf i (by simpa using (List.getElem?_eq_some_iff.1 hi).1)
      rw [h i x hi] at this
      exact absurd hfx this
    | some j => simp
/-- slices.EqualFunc, of elements of es cells; z: the zero of an element. -/
def dEqF (es : Nat) (zs : Array Value) : Def := (.code 3 [.tmp 6] (.seq (.rg false [⟨.some 6, .none, .mv (.c (.bool false))⟩]) (.seq (.seq (.rg false [⟨.some 10, .none, .mv (.t 0)⟩, ⟨.some 11, .none, .lenL (.t 10)⟩, ⟨.some 12, .none, .mv (.t 1)⟩, ⟨.some 13, .none, .lenL (.t 12)⟩, ⟨.some 14, .none, .bin .neq (.t 11) (.t 13)⟩]) (.cond (.t 14) (.seq (.rg false [⟨.some 6, .none, .mv (.c (.bool false))⟩]) .ret) .skip)) (.seq (.seq (.rg false [⟨.some 15, .none, .mv (.t 0)⟩, ⟨.some 16, .none, .lenL (.t 15)⟩, ⟨.some 17, .none, .mv (.c (.int .i64 0))⟩]) (.block 0 (.loop (.seq (.rg false [⟨.some 18, .none, .bin .lss (.t 17) (.t 16)⟩]) (.seq (.cond (.t 18) .skip (.exit 0)) (.seq (.block 1 (.seq (.rg false [⟨.some 19, .none, .mv (.t 17)⟩, ⟨.some 20, .none, .ia es (.t 15) (.t 17)⟩, ⟨.some 21, .none, .ld (.some es) (.t 20)⟩, ⟨.some 8, .none, .box (.c (.agg zs))⟩, ⟨.some 7, .none, .mv (.t 19)⟩, ⟨.none, .none, .st es (.t 8) (.t 21)⟩]) (.seq (.rg false [⟨.some 22, .none, .mv (.t 1)⟩, ⟨.some 23, .none, .mv (.t 7)⟩, ⟨.some 24, .none, .ia es (.t 22) (.t 23)⟩, ⟨.some 25, .none, .ld (.some es) (.t 24)⟩, ⟨.some 9, .none, .box (.c (.agg zs))⟩, ⟨.none, .none, .st es (.t 9) (.t 25)⟩]) (.seq (.rg false [⟨.some 26, .none, .mv (.t 2)⟩, ⟨.some 27, .none, .ld (.some es) (.t 8)⟩, ⟨.some 28, .none, .ld (.some es) (.t 9)⟩, ⟨.some 29, .none, .callv (.t 26) .pure [.t 27, .t 28]⟩, ⟨.some 30, .none, .un .not (.t 29)⟩]) (.cond (.t 30) (.seq (.rg false [⟨.some 6, .none, .mv (.c (.bool false))⟩]) .ret) .skip))))) (.rg false [⟨.some 31, .none, .bin .add (.t 17) (.c (.int .i64 1))⟩, ⟨.some 17, .none, .mv (.t 31)⟩]))))))) (.seq (.rg false [⟨.some 6, .none, .mv (.c (.bool true))⟩]) .ret)))))
/-- Elements that are structs of es cells. -/
def Aggs (es : Nat) (xs : List PV) : Prop := ∀ (i : Nat) e, xs[i]? = some e → ∃ cs, e = .agg cs ∧ cs.length = es
theorem all_hit {q : Nat → Bool} {n i : Nat} (hi : i < n) (h : q i = false) : (List.range n).all q = false := by
  rw [List.all_eq_false]
  exact ⟨i, by simpa using hi, by simp [h]⟩
theorem all_all {q : Nat → Bool} {n : Nat} (h : ∀ j, j < n → q j = true) : (List.range n).all q = true := by
  rw [List.all_eq_true]
  intro j hj
  exact h j (by simpa using hj)
theorem eqF_g {k0 es : Nat} {zs : Array Value} (hk0 : env k0 = some (dEqF es zs)) (hz0 : zs.size = es) {xs ys : List PV} {k : Nat} {q : Nat → Bool} (hn : xs.length ≤ 9223372036854775807) (hX : Aggs es xs) (hY : Aggs es ys)
    (hz : ∀ (i : Nat) e, (xs[i]? = some e ∨ ys[i]? = some e) → ∀ σ, fz σ 12 e = some e) (hp : ∀ (i : Nat) x y, xs[i]? = some x → ys[i]? = some y → AV env k [x, y] = some (.sc (.bool (q i)))) :
    AV env k0 [.sl xs, .sl ys, .fn k [] []] = some (.sc (.bool (decide (xs.length = ys.length) && (List.range xs.length).all q))) := by
  refine AV_wp hk0 rfl ?_
  (repeat' first
    | refine w_seq ?_ | refine w_rg ?_ | refine wo_nil ?_ | refine g_skU ?_
    | ((first | apply s_plain | apply s_void | apply s_guard); · simp only [go_sem, Nat.reduceEqDiff, Nat.reduceAdd, Nat.reduceLeDiff]; (first | done | rfl))
    | ((first | apply g_T | apply g_F); · intro hb; simp only [go_sem, Nat.reduceEqDiff, Nat.reduceAdd, Nat.reduceLeDiff, hb]; (first | done | rfl))
    | ((first | apply g_gT | apply g_gF); · intro hb hc; simp only [go_sem, Nat.reduceEqDiff, Nat.reduceAdd, Nat.reduceLeDiff, hb, hc]; (first | done | rfl))
    | refine g_skT ?_ | refine g_skF ?_
    | ((first | apply g_goT | apply g_goF); · simp only [go_sem, Nat.reduceEqDiff, Nat.reduceAdd, Nat.reduceLeDiff]; (first | done | rfl))
    | fail
    )
  by_cases hl : xs.length = ys.length
  · have hc : ((xs.length : Int) != (ys.length : Int)) = false := by rw [hl]; simp
    (repeat' first
    | refine w_seq ?_ | refine w_rg ?_ | refine wo_nil ?_ | refine g_skU ?_
    | ((first | apply s_plain | apply s_void | apply s_guard); · simp only [go_sem, Nat.reduceEqDiff, Nat.reduceAdd, Nat.reduceLeDiff, hc]; (first | done | rfl))
    | ((first | apply g_T | apply g_F); · intro hb; simp only [go_sem, Nat.reduceEqDiff, Nat.reduceAdd, Nat.reduceLeDiff, hc, hb]; (first | done | rfl))
    | ((first | apply g_gT | apply g_gF); · intro hb hc; simp only [go_sem, Nat.reduceEqDiff, Nat.reduceAdd, Nat.reduceLeDiff, hc, hb, hc]; (first | done | rfl))
    | refine g_skT ?_ | refine g_skF ?_
    | ((first | apply g_goT | apply g_goF); · simp only [go_sem, Nat.reduceEqDiff, Nat.reduceAdd, Nat.reduceLeDiff, hc]; (first | done | rfl))
    | (refine w_condT ?_ ?_; · simp only [go_sem, Nat.reduceEqDiff, Nat.reduceAdd, Nat.reduceLeDiff, hc]; (first | done | rfl))
    | (refine w_condF ?_ ?_; · simp only [go_sem, Nat.reduceEqDiff, Nat.reduceAdd, Nat.reduceLeDiff, hc]; (first | done | rfl))
    | refine w_skip ?_ | refine w_exit ?_ | refine w_ret ?_
    | fail
    )
    refine w_block (w_rangeF xs.length hn (fun i fr σ => ∀ j, j < i → q j = true) ⟨by decide, rfl, rfl⟩ (fun _ _ _ _ h => ⟨h, h, h⟩) (fun j hj => by omega) (by simp only [go_sem, Nat.reduceEqDiff, Nat.reduceAdd, Nat.reduceLeDiff]; first | done | rfl) (by simp only [go_sem, Nat.reduceEqDiff, Nat.reduceAdd, Nat.reduceLeDiff]; first | done | rfl) ?_ ?_)
    · rintro i fr1 σ1 hi h3 hti hfr
      have f15 : fr1 15 = .sl xs := by rw [hfr 15 rfl]; simp only [go_sem, Nat.reduceEqDiff, Nat.reduceAdd, Nat.reduceLeDiff]
      have f1 : fr1 1 = .sl ys := by rw [hfr 1 rfl]; simp only [go_sem, Nat.reduceEqDiff, Nat.reduceAdd, Nat.reduceLeDiff]
      have f2 : fr1 2 = .fn k [] [] := by rw [hfr 2 rfl]; simp only [go_sem, Nat.reduceEqDiff, Nat.reduceAdd, Nat.reduceLeDiff]
      have hi2 : i < ys.length := by omega
      have hx := List.getElem?_eq_getElem hi
      have hy := List.getElem?_eq_getElem hi2
      obtain ⟨cs, hcs, lcs⟩ := hX i _ hx
      obtain ⟨ds, hds, lds⟩ := hY i _ hy
      rw [hcs] at hx
      rw [hds] at hy
      have zx := hz i _ (.inl hx)
      have zy := hz i _ (.inr hy)
      have hpi := hp i _ _ hx hy
      have tc : cs.take es = cs := List.take_of_length_le (by omega)
      have td : ds.take es = ds := List.take_of_length_le (by omega)
      have e1 : (0 : Int) ≤ (i : Int) ∧ (i : Int) < (xs.length : Int) := by omega
      have e2 : (0 : Int) ≤ (i : Int) ∧ (i : Int) < (ys.length : Int) := by omega
      refine w_block ?_
      (repeat' first
    | refine w_seq ?_ | refine w_rg ?_ | refine wo_nil ?_ | refine g_skU ?_
    | ((first | apply s_plain | apply s_void | apply s_guard); · simp only [go_sem, Nat.reduceEqDiff, Nat.reduceAdd, Nat.reduceLeDiff, f15, f1, f2, hti, e1, e2, Int.toNat_natCast, hx, hy, lcs, lds, tc, td, hz0, List.length_map, Array.length_toList, eq_self, List.modify_zero_cons, zx, zy, hpi]; (first | done | rfl))
    | ((first | apply g_T | apply g_F); · intro hb; simp only [go_sem, Nat.reduceEqDiff, Nat.reduceAdd, Nat.reduceLeDiff, f15, f1, f2, hti, e1, e2, Int.toNat_natCast, hx, hy, lcs, lds, tc, td, hz0, List.length_map, Array.length_toList, eq_self, List.modify_zero_cons, zx, zy, hpi, hb]; (first | done | rfl))
    | ((first | apply g_gT | apply g_gF); · intro hb hc; simp only [go_sem, Nat.reduceEqDiff, Nat.reduceAdd, Nat.reduceLeDiff, f15, f1, f2, hti, e1, e2, Int.toNat_natCast, hx, hy, lcs, lds, tc, td, hz0, List.length_map, Array.length_toList, eq_self, List.modify_zero_cons, zx, zy, hpi, hb, hc]; (first | done | rfl))
    | refine g_skT ?_ | refine g_skF ?_
    | ((first | apply g_goT | apply g_goF); · simp only [go_sem, Nat.reduceEqDiff, Nat.reduceAdd, Nat.reduceLeDiff, f15, f1, f2, hti, e1, e2, Int.toNat_natCast, hx, hy, lcs, lds, tc, td, hz0, List.length_map, Array.length_toList, eq_self, List.modify_zero_cons, zx, zy, hpi]; (first | done | rfl))
    | fail
    )
      cases hqi : q i with
      | false =>
        (repeat' first
    | refine w_seq ?_ | refine w_rg ?_ | refine wo_nil ?_ | refine g_skU ?_
    | ((first | apply s_plain | apply s_void | apply s_guard); · simp only [go_sem, Nat.reduceEqDiff, Nat.reduceAdd, Nat.reduceLeDiff]; (first | done | rfl))
    | ((first | apply g_T | apply g_F); · intro hb; simp only [go_sem, Nat.reduceEqDiff, Nat.reduceAdd, Nat.reduceLeDiff, hb]; (first | done | rfl))
    | ((first | apply g_gT | apply g_gF); · intro hb hc; simp only [go_sem, Nat.reduceEqDiff, Nat.reduceAdd, Nat.reduceLeDiff, hb, hc]; (first | done | rfl))
    | refine g_skT ?_ | refine g_skF ?_
    | ((first | apply g_goT | apply g_goF); · simp only [go_sem, Nat.reduceEqDiff, Nat.reduceAdd, Nat.reduceLeDiff]; (first | done | rfl))
    | (refine w_condT ?_ ?_; · simp only [go_sem, Nat.reduceEqDiff, Nat.reduceAdd, Nat.reduceLeDiff]; (first | done | rfl))
    | (refine w_condF ?_ ?_; · simp only [go_sem, Nat.reduceEqDiff, Nat.reduceAdd, Nat.reduceLeDiff]; (first | done | rfl))
    | refine w_skip ?_ | refine w_exit ?_ | refine w_ret ?_
    | fail
    )
        exact ⟨by first | exact .inr rfl | exact .inr trivial | exact .inl rfl, by simp only [go_sem, Nat.reduceEqDiff, Nat.reduceAdd, Nat.reduceLeDiff, retOf, resOf, all_hit hi hqi, Bool.and_false]; first | done | rfl⟩
      | true =>
        (repeat' first
    | refine w_seq ?_ | refine w_rg ?_ | refine wo_nil ?_ | refine g_skU ?_
    | ((first | apply s_plain | apply s_void | apply s_guard); · simp only [go_sem, Nat.reduceEqDiff, Nat.reduceAdd, Nat.reduceLeDiff]; (first | done | rfl))
    | ((first | apply g_T | apply g_F); · intro hb; simp only [go_sem, Nat.reduceEqDiff, Nat.reduceAdd, Nat.reduceLeDiff, hb]; (first | done | rfl))
    | ((first | apply g_gT | apply g_gF); · intro hb hc; simp only [go_sem, Nat.reduceEqDiff, Nat.reduceAdd, Nat.reduceLeDiff, hb, hc]; (first | done | rfl))
    | refine g_skT ?_ | refine g_skF ?_
    | ((first | apply g_goT | apply g_goF); · simp only [go_sem, Nat.reduceEqDiff, Nat.reduceAdd, Nat.reduceLeDiff]; (first | done | rfl))
    | (refine w_condT ?_ ?_; · simp only [go_sem, Nat.reduceEqDiff, Nat.reduceAdd, Nat.reduceLeDiff]; (first | done | rfl))
    | (refine w_condF ?_ ?_; · simp only [go_sem, Nat.reduceEqDiff, Nat.reduceAdd, Nat.reduceLeDiff]; (first | done | rfl))
    | refine w_skip ?_ | refine w_exit ?_ | refine w_ret ?_
    | fail
    )
        intro j hj
        by_cases hji : j = i
        · rw [hji]; exact hqi
        · exact h3 j (by omega)
    · rintro fr1 σ1 h3 hfr
      try simp only [if_true]
      (repeat' first
    | refine w_seq ?_ | refine w_rg ?_ | refine wo_nil ?_ | refine g_skU ?_
    | ((first | apply s_plain | apply s_void | apply s_guard); · simp only [go_sem, Nat.reduceEqDiff, Nat.reduceAdd, Nat.reduceLeDiff]; (first | done | rfl))
    | ((first | apply g_T | apply g_F); · intro hb; simp only [go_sem, Nat.reduceEqDiff, Nat.reduceAdd, Nat.reduceLeDiff, hb]; (first | done | rfl))
    | ((first | apply g_gT | apply g_gF); · intro hb hc; simp only [go_sem, Nat.reduceEqDiff, Nat.reduceAdd, Nat.reduceLeDiff, hb, hc]; (first | done | rfl))
    | refine g_skT ?_ | refine g_skF ?_
    | ((first | apply g_goT | apply g_goF); · simp only [go_sem, Nat.reduceEqDiff, Nat.reduceAdd, Nat.reduceLeDiff]; (first | done | rfl))
    | (refine w_condT ?_ ?_; · simp only [go_sem, Nat.reduceEqDiff, Nat.reduceAdd, Nat.reduceLeDiff]; (first | done | rfl))
    | (refine w_condF ?_ ?_; · simp only [go_sem, Nat.reduceEqDiff, Nat.reduceAdd, Nat.reduceLeDiff]; (first | done | rfl))
    | refine w_skip ?_ | refine w_exit ?_ | refine w_ret ?_
    | fail
    )
      exact ⟨by first | exact .inr rfl | exact .inr trivial | exact .inl rfl, by simp only [go_sem, Nat.reduceEqDiff, Nat.reduceAdd, Nat.reduceLeDiff, retOf, resOf, all_all h3, decide_eq_true hl]; first | done | rfl⟩
  · have hc : ((xs.length : Int) != (ys.length : Int)) = true := by simp; omega
    (repeat' first
    | refine w_seq ?_ | refine w_rg ?_ | refine wo_nil ?_ | refine g_skU ?_
    | ((first | apply s_plain | apply s_void | apply s_guard); · simp only [go_sem, Nat.reduceEqDiff, Nat.reduceAdd, Nat.reduceLeDiff, hc]; (first | done | rfl))
    | ((first | apply g_T | apply g_F); · intro hb; simp only [go_sem, Nat.reduceEqDiff, Nat.reduceAdd, Nat.reduceLeDiff, hc, hb]; (first | done | rfl))
    | ((first | apply g_gT | apply g_gF); · intro hb hc; simp only [go_sem, Nat.reduceEqDiff, Nat.reduceAdd, Nat.reduceLeDiff, hc, hb, hc]; (first | done | rfl))
    | refine g_skT ?_ | refine g_skF ?_
    | ((first | apply g_goT | apply g_goF); · simp only [go_sem, Nat.reduceEqDiff, Nat.reduceAdd, Nat.reduceLeDiff, hc]; (first | done | rfl))
    | (refine w_condT ?_ ?_; · simp only [go_sem, Nat.reduceEqDiff, Nat.reduceAdd, Nat.reduceLeDiff, hc]; (first | done | rfl))
    | (refine w_condF ?_ ?_; · simp only [go_sem, Nat.reduceEqDiff, Nat.reduceAdd, Nat.reduceLeDiff, hc]; (first | done | rfl))
    | refine w_skip ?_ | refine w_exit ?_ | refine w_ret ?_
    | fail
    )
    exact ⟨by first | exact .inr rfl | exact .inr trivial | exact .inl rfl, by simp only [go_sem, Nat.reduceEqDiff, Nat.reduceAdd, Nat.reduceLeDiff, retOf, resOf, decide_eq_false hl]; first | done | rfl⟩
end
end Go.Proofs.YtdlfomiclkpibaaDoorPv
namespace Go.Proofs.YtdlfomiclkpibaaDoorPv
open Go
set_option linter.unusedSimpArgs false
set_option linter.unusedVariables false
set_option maxHeartbeats 4000000
attribute [local go_sem ↓] e_mv e_pick e_bin e_eqs e_beq e_un e_cvi e_str e_s2b e_b2s e_box e_build e_bsl e_ld e_st e_nck e_mkf e_slcS e_slcL e_fa e_fld e_ia e_iaa e_ix e_ixa e_ext e_lenS e_lenL e_mnmx e_app e_appb e_bbx e_msl e_clr e_call e_callv pa_t pa_c pa_f slcSP_str hiOf_some hiOf_none loOf_some loOf_none set_eq set_ne
attribute [local go_sem] pv pv1 simple frOf_0 frOf_1 frOf_2 frOf_3 frOf_4 frOf_5 ne_eq not_false_eq_true if_true Bool.false_eq_true if_false pbin punary Option.map_some Option.bind_some pick_and pick_or opt_true Bool.true_and Bool.and_self Bool.and_true Bool.true_or Bool.false_or Bool.not_true Bool.not_false callE pcall_eq List.map_cons List.map_nil List.append_nil List.nil_append List.cons_append mapM_cons' mapM_nil' dep_eq fz_sc fz_sl fz_em fz_fn fz_fp fz_agg fz_tu fz_bx fz_ob Nat.lt_irrefl Nat.zero_lt_one Nat.lt_add_one flat clL cl Bool.or_true okc_sc okc_em okc_sl okc_ob okc_bx okc_fp okc_fn okc_agg okc_ifc cells_agg cells_sc cells_sl cells_em cells_ob cells_fn cells_bx cells_fp List.length_cons List.length_nil Nat.zero_add and_self true_and and_true new_m new_c put_m put_c nil_m nil_c deref List.getElem?_cons_zero List.getElem?_cons_succ List.drop_zero List.drop_succ_cons List.take_succ_cons List.take_zero Nat.le_refl false_and and_false decide_true decide_false lenP_em lenP_nil lenP_sl lenP_ob Int.ofNat_zero
set_option maxRecDepth 8000
/-- transhipment/transhipmentref06.Word -/
def d30 : Def := (.code 1 [.tmp 2] (.seq (.rg false [⟨.some 2, .none, .mv (.c (.bool false))⟩]) (.seq (.seq (.rg false [⟨.some 3, .none, .mv (.c (.int .i64 0))⟩]) (.block 0 (.loop (.seq (.seq (.rg false [⟨.some 5, .none, .mv (.t 3)⟩, ⟨.some 6, .none, .mv (.t 0)⟩, ⟨.some 7, .none, .lenS (.t 6)⟩, ⟨.some 8, .none, .bin .lss (.t 5) (.t 7)⟩]) (.cond (.t 8) .skip (.exit 0))) (.seq (.block 1 (.seq (.rg false [⟨.some 11, .none, .mv (.t 0)⟩, ⟨.some 12, .none, .mv (.t 3)⟩, ⟨.some 13, .none, .ix (.t 11) (.t 12)⟩, ⟨.some 4, .none, .mv (.t 13)⟩]) (.seq (.rg false [⟨.some 14, .none, .mv (.t 4)⟩, ⟨.some 15, .none, .bin .lss (.t 14) (.c (.int .u8 97))⟩, ⟨.some 16, .none, .mv (.t 15)⟩, ⟨.some 17, .some (16, false), .mv (.t 4)⟩, ⟨.some 18, .some (16, false), .bin .gtr (.t 17) (.c (.int .u8 122))⟩, ⟨.some 19, .none, .pick (.t 16) (.c (.bool true)) (.t 18)⟩, ⟨.some 20, .none, .mv (.t 19)⟩, ⟨.some 21, .some (20, true), .mv (.t 4)⟩, ⟨.some 22, .some (20, true), .bin .lss (.t 21) (.c (.int .u8 48))⟩, ⟨.some 23, .some (20, true), .mv (.t 22)⟩, ⟨.some 24, .some (23, false), .mv (.t 4)⟩, ⟨.some 25, .some (23, false), .bin .gtr (.t 24) (.c (.int .u8 57))⟩, ⟨.some 26, .some (20, true), .pick (.t 23) (.c (.bool true)) (.t 25)⟩, ⟨.some 27, .none, .pick (.t 20) (.t 26) (.c (.bool false))⟩, ⟨.some 28, .none, .mv (.t 27)⟩, ⟨.some 29, .some (28, true), .mv (.t 4)⟩, ⟨.some 30, .some (28, true), .bin .neq (.t 29) (.c (.int .u8 95))⟩, ⟨.some 31, .none, .pick (.t 28) (.t 30) (.c (.bool false))⟩]) (.cond (.t 31) (.seq (.rg false [⟨.some 2, .none, .mv (.c (.bool false))⟩]) .ret) .skip)))) (.rg false [⟨.some 9, .none, .mv (.t 3)⟩, ⟨.some 10, .none, .bin .add (.t 9) (.c (.int .i64 1))⟩, ⟨.some 3, .none, .mv (.t 10)⟩])))))) (.seq (.rg false [⟨.some 32, .none, .mv (.t 0)⟩, ⟨.some 33, .none, .lenS (.t 32)⟩, ⟨.some 34, .none, .bin .gtr (.t 33) (.c (.int .i64 0))⟩, ⟨.some 35, .none, .mv (.t 34)⟩, ⟨.some 36, .some (35, true), .mv (.t 0)⟩, ⟨.some 37, .some (35, true), .lenS (.t 36)⟩, ⟨.some 38, .some (35, true), .bin .leq (.t 37) (.c (.int .i64 64))⟩, ⟨.some 39, .none, .pick (.t 35) (.t 38) (.c (.bool false))⟩, ⟨.some 2, .none, .mv (.t 39)⟩]) .ret))))
def lle : List (Nat × Def) := [(30, d30)]
section
variable {env : Nat → Option Def} {fr : Fr} {σ σ' σ'' : St} {K : Fr → St → Prop} {Q : X → Fr → St → Prop} {p : PV} {bs : List UInt8}
def wordC (c : UInt8) : Bool := (decide (97 ≤ c.toNat) && decide (c.toNat ≤ 122)) || (decide (48 ≤ c.toNat) && decide (c.toNat ≤ 57)) || decide (c.toNat = 95)
/-- May a word be? -/
def wordD (l : List UInt8) : Bool := !l.isEmpty && decide (l.length ≤ 64) && l.all wordC
/-- A loop that looks at each byte of a text. -/
theorem w_bytesF {b : PC} {ti : Nat} (l : List UInt8) (ok : UInt8 → Bool) (h0 : fr ti = .sc (.int .i64 0))
    (hb : ∀ i fr1, i < l.length → fr1 ti = .sc (.int .i64 i) → (∀ t, (wrC b).contains t = false → fr1 t = fr t) → (l.take i).all ok = true →
      Wp env b (fun x fr' σ' => match x with | .normal => ok (byteD l i) = true ∧ fr' ti = .sc (.int .i64 (i + 1 : Nat)) ∧ σ' = σ | x => Q x fr' σ') fr1 σ)
    (he : ∀ fr1, fr1 ti = .sc (.int .i64 l.length) → (∀ t, (wrC b).contains t = false → fr1 t = fr t) → l.all ok = true → Wp env b (fun x fr' σ' => match x with | .normal => False | x => Q x fr' σ') fr1 σ) :
    Wp env (.loop b) Q fr σ := by
  refine w_loopF (fun m fr1 σ1 => ∃ i : Nat, m = l.length - i ∧ i ≤ l.length ∧ fr1 ti = .sc (.int .i64 i) ∧ (l.take i).all ok = true ∧ σ1 = σ) ?_ (l.length - 0) ⟨0, rfl, Nat.zero_le _, h0, rfl, rfl⟩
  rintro m fr1 σ1 ⟨i, rfl, hi, f1, ha, rfl⟩ hfr
  by_cases hlt : i < l.length
  · refine (hb i fr1 hlt f1 hfr ha).mono ?_
    intro x fr' σ' h
    cases x with
    | normal =>
      refine ⟨l.length - (i + 1), by omega, i + 1, rfl, hlt, h.2.1, ?_, h.2.2⟩
      rw [List.take_add_one, byteD_q hlt, List.all_append, ha]
      simp [h.1]
    | exit id => exact h
    | ret => exact h
  · have hin : i = l.length := by omega
    subst hin
    rw [List.take_length] at ha
    refine (he fr1 f1 hfr ha).mono ?_
    intro x fr' σ' h
    cases x with
    | normal => exact h.elim
    | exit id => exact h
    | ret => exact h
theorem all_no {l : List UInt8} {ok : UInt8 → Bool} {i : Nat} (hi : i < l.length) (h : ok (byteD l i) = false) : l.all ok = false := by
  rw [List.all_eq_false]
  exact ⟨l[i], List.getElem_mem hi, by rw [← byteD_at hi, h]; simp⟩
theorem isEmpty_gt (l : List UInt8) : decide ((l.length : Int) > 0) = !l.isEmpty := by
  cases l with
  | nil => rfl
  | cons x r => simp
theorem a30t (L : Has lle env) {l : List UInt8} (hn : l.length ≤ 4000000000) : AV env 30 [txt l] = some (.sc (.bool (wordD l))) := by
  refine AV_wp (L (30, d30) (by simp [lle])) rfl ?_
  (repeat' first
    | refine w_seq ?_ | refine w_rg ?_ | refine wo_nil ?_ | refine g_skU ?_
    | ((first | apply s_plain | apply s_void | apply s_guard); · simp only [go_sem, Nat.reduceEqDiff, Nat.reduceAdd, Nat.reduceLeDiff]; (first | done | rfl))
    | ((first | apply g_T | apply g_F); · intro hb; simp only [go_sem, Nat.reduceEqDiff, Nat.reduceAdd, Nat.reduceLeDiff, hb]; (first | done | rfl))
    | ((first | apply g_gT | apply g_gF); · intro hb hc; simp only [go_sem, Nat.reduceEqDiff, Nat.reduceAdd, Nat.reduceLeDiff, hb, hc]; (first | done | rfl))
    | refine g_skT ?_ | refine g_skF ?_
    | ((first | apply g_goT | apply g_goF); · simp only [go_sem, Nat.reduceEqDiff, Nat.reduceAdd, Nat.reduceLeDiff]; (first | done | rfl))
    | fail
    )
  refine w_block (w_bytesF (ti := 3) l wordC (by simp only [go_sem, Nat.reduceEqDiff, Nat.reduceAdd, Nat.reduceLeDiff]) ?_ ?_)
  · intro i fr1 hi f1 hfr _
    have f0_0 := hfr 0 rfl; try (simp only [go_sem, Nat.reduceEqDiff, Nat.reduceAdd, Nat.reduceLeDiff] at f0_0)
    have hd : decide ((i : Int) < (l.length : Int)) = true := by simp; omega
    have e1 : (0 : Int) ≤ (i : Int) := by omega
    have w1 : IntKind.i64.wrap ((i : Int) + 1) = ((i + 1 : Nat) : Int) := by rw [IntKind.wrap_i64]; omega
    have hq := byteD_q hi
    (repeat' first
    | refine w_seq ?_ | refine w_rg ?_ | refine wo_nil ?_ | refine g_skU ?_
    | ((first | apply s_plain | apply s_void | apply s_guard); · simp only [go_sem, Nat.reduceEqDiff, Nat.reduceAdd, Nat.reduceLeDiff, f0_0, f1, hd, ba_data, ba_size, ba_toList, ba_extract, ba_append, List.toList_toArray]; (first | done | rfl))
    | ((first | apply g_T | apply g_F); · intro hb; simp only [go_sem, Nat.reduceEqDiff, Nat.reduceAdd, Nat.reduceLeDiff, f0_0, f1, hd, ba_data, ba_size, ba_toList, ba_extract, ba_append, List.toList_toArray, hb]; (first | done | rfl))
    | ((first | apply g_gT | apply g_gF); · intro hb hc; simp only [go_sem, Nat.reduceEqDiff, Nat.reduceAdd, Nat.reduceLeDiff, f0_0, f1, hd, ba_data, ba_size, ba_toList, ba_extract, ba_append, List.toList_toArray, hb, hc]; (first | done | rfl))
    | refine g_skT ?_ | refine g_skF ?_
    | ((first | apply g_goT | apply g_goF); · simp only [go_sem, Nat.reduceEqDiff, Nat.reduceAdd, Nat.reduceLeDiff, f0_0, f1, hd, ba_data, ba_size, ba_toList, ba_extract, ba_append, List.toList_toArray]; (first | done | rfl))
    | (refine w_condT ?_ ?_; · simp only [go_sem, Nat.reduceEqDiff, Nat.reduceAdd, Nat.reduceLeDiff, f0_0, f1, hd, ba_data, ba_size, ba_toList, ba_extract, ba_append, List.toList_toArray]; (first | done | rfl))
    | (refine w_condF ?_ ?_; · simp only [go_sem, Nat.reduceEqDiff, Nat.reduceAdd, Nat.reduceLeDiff, f0_0, f1, hd, ba_data, ba_size, ba_toList, ba_extract, ba_append, List.toList_toArray]; (first | done | rfl))
    | refine w_skip ?_ | refine w_exit ?_ | refine w_ret ?_
    | fail
    )
    refine w_block ?_
    (repeat' first
    | refine w_seq ?_ | refine w_rg ?_ | refine wo_nil ?_ | refine g_skU ?_
    | ((first | apply s_plain | apply s_void | apply s_guard); · simp only [go_sem, Nat.reduceEqDiff, Nat.reduceAdd, Nat.reduceLeDiff, f0_0, f1, e1, Int.toNat_natCast, hq, ba_data, ba_size, ba_toList, ba_extract, ba_append, List.toList_toArray]; (first | done | rfl))
    | ((first | apply g_T | apply g_F); · intro hb; simp only [go_sem, Nat.reduceEqDiff, Nat.reduceAdd, Nat.reduceLeDiff, f0_0, f1, e1, Int.toNat_natCast, hq, ba_data, ba_size, ba_toList, ba_extract, ba_append, List.toList_toArray, hb]; (first | done | rfl))
    | ((first | apply g_gT | apply g_gF); · intro hb hc; simp only [go_sem, Nat.reduceEqDiff, Nat.reduceAdd, Nat.reduceLeDiff, f0_0, f1, e1, Int.toNat_natCast, hq, ba_data, ba_size, ba_toList, ba_extract, ba_append, List.toList_toArray, hb, hc]; (first | done | rfl))
    | refine g_skT ?_ | refine g_skF ?_
    | ((first | apply g_goT | apply g_goF); · simp only [go_sem, Nat.reduceEqDiff, Nat.reduceAdd, Nat.reduceLeDiff, f0_0, f1, e1, Int.toNat_natCast, hq, ba_data, ba_size, ba_toList, ba_extract, ba_append, List.toList_toArray]; (first | done | rfl))
    | fail
    )
    have hbad : (!wordC (byteD l i)) = (((decide (((byteD l i).toNat : Int) < 97) || decide (((byteD l i).toNat : Int) > 122)) && (decide (((byteD l i).toNat : Int) < 48) || decide (((byteD l i).toNat : Int) > 57))) && (((byteD l i).toNat : Int) != 95)) := by
      unfold wordC
      rw [Bool.eq_iff_iff]
      simp
      omega
    cases hpi : wordC (byteD l i) with
    | false =>
      rw [hpi] at hbad
      refine w_condT (by simp only [go_sem, Nat.reduceEqDiff, Nat.reduceAdd, Nat.reduceLeDiff]; exact congrArg (fun b => PV.sc (.bool b)) hbad.symm) ?_
      (repeat' first
    | refine w_seq ?_ | refine w_rg ?_ | refine wo_nil ?_ | refine g_skU ?_
    | ((first | apply s_plain | apply s_void | apply s_guard); · simp only [go_sem, Nat.reduceEqDiff, Nat.reduceAdd, Nat.reduceLeDiff]; (first | done | rfl))
    | ((first | apply g_T | apply g_F); · intro hb; simp only [go_sem, Nat.reduceEqDiff, Nat.reduceAdd, Nat.reduceLeDiff, hb]; (first | done | rfl))
    | ((first | apply g_gT | apply g_gF); · intro hb hc; simp only [go_sem, Nat.reduceEqDiff, Nat.reduceAdd, Nat.reduceLeDiff, hb, hc]; (first | done | rfl))
    | refine g_skT ?_ | refine g_skF ?_
    | ((first | apply g_goT | apply g_goF); · simp only [go_sem, Nat.reduceEqDiff, Nat.reduceAdd, Nat.reduceLeDiff]; (first | done | rfl))
    | (refine w_condT ?_ ?_; · simp only [go_sem, Nat.reduceEqDiff, Nat.reduceAdd, Nat.reduceLeDiff]; (first | done | rfl))
    | (refine w_condF ?_ ?_; · simp only [go_sem, Nat.reduceEqDiff, Nat.reduceAdd, Nat.reduceLeDiff]; (first | done | rfl))
    | refine w_skip ?_ | refine w_exit ?_ | refine w_ret ?_
    | fail
    )
      exact ⟨by first | exact .inr rfl | exact .inr trivial | exact .inl rfl, by simp only [go_sem, Nat.reduceEqDiff, Nat.reduceAdd, Nat.reduceLeDiff, retOf, resOf, wordD, all_no hi hpi, Bool.and_false]; first | done | rfl⟩
    | true =>
      rw [hpi] at hbad
      refine w_condF (by simp only [go_sem, Nat.reduceEqDiff, Nat.reduceAdd, Nat.reduceLeDiff]; exact congrArg (fun b => PV.sc (.bool b)) hbad.symm) ?_
      (repeat' first
    | refine w_seq ?_ | refine w_rg ?_ | refine wo_nil ?_ | refine g_skU ?_
    | ((first | apply s_plain | apply s_void | apply s_guard); · simp only [go_sem, Nat.reduceEqDiff, Nat.reduceAdd, Nat.reduceLeDiff, f1, w1]; (first | done | rfl))
    | ((first | apply g_T | apply g_F); · intro hb; simp only [go_sem, Nat.reduceEqDiff, Nat.reduceAdd, Nat.reduceLeDiff, f1, w1, hb]; (first | done | rfl))
    | ((first | apply g_gT | apply g_gF); · intro hb hc; simp only [go_sem, Nat.reduceEqDiff, Nat.reduceAdd, Nat.reduceLeDiff, f1, w1, hb, hc]; (first | done | rfl))
    | refine g_skT ?_ | refine g_skF ?_
    | ((first | apply g_goT | apply g_goF); · simp only [go_sem, Nat.reduceEqDiff, Nat.reduceAdd, Nat.reduceLeDiff, f1, w1]; (first | done | rfl))
    | (refine w_condT ?_ ?_; · simp only [go_sem, Nat.reduceEqDiff, Nat.reduceAdd, Nat.reduceLeDiff, f1, w1]; (first | done | rfl))
    | (refine w_condF ?_ ?_; · simp only [go_sem, Nat.reduceEqDiff, Nat.reduceAdd, Nat.reduceLeDiff, f1, w1]; (first | done | rfl))
    | refine w_skip ?_ | refine w_exit ?_ | refine w_ret ?_
    | fail
    )
      exact ⟨rfl, by simp only [go_sem, Nat.reduceEqDiff, Nat.reduceAdd, Nat.reduceLeDiff], rfl⟩
  · intro fr1 f1 hfr ha
    have f0_0 := hfr 0 rfl; try (simp only [go_sem, Nat.reduceEqDiff, Nat.reduceAdd, Nat.reduceLeDiff] at f0_0)
    have hd : decide ((l.length : Int) < (l.length : Int)) = false := by simp
    (repeat' first
    | refine w_seq ?_ | refine w_rg ?_ | refine wo_nil ?_ | refine g_skU ?_
    | ((first | apply s_plain | apply s_void | apply s_guard); · simp only [go_sem, Nat.reduceEqDiff, Nat.reduceAdd, Nat.reduceLeDiff, f0_0, f1, hd, ba_data, ba_size, ba_toList, ba_extract, ba_append, List.toList_toArray]; (first | done | rfl))
    | ((first | apply g_T | apply g_F); · intro hb; simp only [go_sem, Nat.reduceEqDiff, Nat.reduceAdd, Nat.reduceLeDiff, f0_0, f1, hd, ba_data, ba_size, ba_toList, ba_extract, ba_append, List.toList_toArray, hb]; (first | done | rfl))
    | ((first | apply g_gT | apply g_gF); · intro hb hc; simp only [go_sem, Nat.reduceEqDiff, Nat.reduceAdd, Nat.reduceLeDiff, f0_0, f1, hd, ba_data, ba_size, ba_toList, ba_extract, ba_append, List.toList_toArray, hb, hc]; (first | done | rfl))
    | refine g_skT ?_ | refine g_skF ?_
    | ((first | apply g_goT | apply g_goF); · simp only [go_sem, Nat.reduceEqDiff, Nat.reduceAdd, Nat.reduceLeDiff, f0_0, f1, hd, ba_data, ba_size, ba_toList, ba_extract, ba_append, List.toList_toArray]; (first | done | rfl))
    | (refine w_condT ?_ ?_; · simp only [go_sem, Nat.reduceEqDiff, Nat.reduceAdd, Nat.reduceLeDiff, f0_0, f1, hd, ba_data, ba_size, ba_toList, ba_extract, ba_append, List.toList_toArray]; (first | done | rfl))
    | (refine w_condF ?_ ?_; · simp only [go_sem, Nat.reduceEqDiff, Nat.reduceAdd, Nat.reduceLeDiff, f0_0, f1, hd, ba_data, ba_size, ba_toList, ba_extract, ba_append, List.toList_toArray]; (first | done | rfl))
    | refine w_skip ?_ | refine w_exit ?_ | refine w_ret ?_
    | fail
    )
    simp only [if_true]
    (repeat' first
    | refine w_seq ?_ | refine w_rg ?_ | refine wo_nil ?_ | refine g_skU ?_
    | ((first | apply s_plain | apply s_void | apply s_guard); · simp only [go_sem, Nat.reduceEqDiff, Nat.reduceAdd, Nat.reduceLeDiff, f0_0, ba_data, ba_size, ba_toList, ba_extract, ba_append, List.toList_toArray]; (first | done | rfl))
    | ((first | apply g_T | apply g_F); · intro hb; simp only [go_sem, Nat.reduceEqDiff, Nat.reduceAdd, Nat.reduceLeDiff, f0_0, ba_data, ba_size, ba_toList, ba_extract, ba_append, List.toList_toArray, hb]; (first | done | rfl))
    | ((first | apply g_gT | apply g_gF); · intro hb hc; simp only [go_sem, Nat.reduceEqDiff, Nat.reduceAdd, Nat.reduceLeDiff, f0_0, ba_data, ba_size, ba_toList, ba_extract, ba_append, List.toList_toArray, hb, hc]; (first | done | rfl))
    | refine g_skT ?_ | refine g_skF ?_
    | ((first | apply g_goT | apply g_goF); · simp only [go_sem, Nat.reduceEqDiff, Nat.reduceAdd, Nat.reduceLeDiff, f0_0, ba_data, ba_size, ba_toList, ba_extract, ba_append, List.toList_toArray]; (first | done | rfl))
    | (refine w_condT ?_ ?_; · simp only [go_sem, Nat.reduceEqDiff, Nat.reduceAdd, Nat.reduceLeDiff, f0_0, ba_data, ba_size, ba_toList, ba_extract, ba_append, List.toList_toArray]; (first | done | rfl))
    | (refine w_condF ?_ ?_; · simp only [go_sem, Nat.reduceEqDiff, Nat.reduceAdd, Nat.reduceLeDiff, f0_0, ba_data, ba_size, ba_toList, ba_extract, ba_append, List.toList_toArray]; (first | done | rfl))
    | refine w_skip ?_ | refine w_exit ?_ | refine w_ret ?_
    | fail
    )
    have e : (decide ((l.length : Int) > 0) && decide ((l.length : Int) ≤ 64)) = wordD l := by
      unfold wordD
      rw [isEmpty_gt, ha, Bool.and_true]
      congr 1
      rw [Bool.eq_iff_iff]; simp; omega
    exact ⟨by first | exact .inr rfl | exact .inr trivial | exact .inl rfl, by simp only [go_sem, Nat.reduceEqDiff, Nat.reduceAdd, Nat.reduceLeDiff, retOf, resOf, e]; first | done | rfl⟩
end
end Go.Proofs.YtdlfomiclkpibaaDoorPv
namespace Go.Proofs.YtdlfomiclkpibaaDoorPv
open Go
set_option linter.unusedSimpArgs false
set_option linter.unusedVariables false
set_option maxHeartbeats 4000000
attribute [local go_sem ↓] e_mv e_pick e_bin e_eqs e_beq e_un e_cvi e_str e_s2b e_b2s e_box e_build e_bsl e_ld e_st e_nck e_mkf e_slcS e_slcL e_fa e_fld e_ia e_iaa e_ix e_ixa e_ext e_lenS e_lenL e_mnmx e_app e_appb e_bbx e_msl e_clr e_call e_callv pa_t pa_c pa_f slcSP_str hiOf_some hiOf_none loOf_some loOf_none set_eq set_ne
attribute [local go_sem] pv pv1 simple frOf_0 frOf_1 frOf_2 frOf_3 frOf_4 frOf_5 ne_eq not_false_eq_true if_true Bool.false_eq_true if_false pbin punary Option.map_some Option.bind_some pick_and pick_or opt_true Bool.true_and Bool.and_self Bool.and_true Bool.true_or Bool.false_or Bool.not_true Bool.not_false callE pcall_eq List.map_cons List.map_nil List.append_nil List.nil_append List.cons_append mapM_cons' mapM_nil' dep_eq fz_sc fz_sl fz_em fz_fn fz_fp fz_agg fz_tu fz_bx fz_ob Nat.lt_irrefl Nat.zero_lt_one Nat.lt_add_one flat clL cl Bool.or_true okc_sc okc_em okc_sl okc_ob okc_bx okc_fp okc_fn okc_agg okc_ifc cells_agg cells_sc cells_sl cells_em cells_ob cells_fn cells_bx cells_fp List.length_cons List.length_nil Nat.zero_add and_self true_and and_true new_m new_c put_m put_c nil_m nil_c deref List.getElem?_cons_zero List.getElem?_cons_succ List.drop_zero List.drop_succ_cons List.take_succ_cons List.take_zero Nat.le_refl false_and and_false decide_true decide_false lenP_em lenP_nil lenP_sl lenP_ob Int.ofNat_zero
set_option maxRecDepth 8000
/-- transhipment/block.value$1 -/
def d69 : Def := (.code 1 [.tmp 2] (.seq (.rg false [⟨.some 2, .none, .mv (.c (.bool false))⟩]) (.seq (.rg false [⟨.some 3, .none, .mv (.t 0)⟩, ⟨.some 4, .none, .bin .lss (.t 3) (.c (.int .u8 32))⟩, ⟨.some 5, .none, .mv (.t 4)⟩, ⟨.some 6, .some (5, false), .mv (.t 0)⟩, ⟨.some 7, .some (5, false), .bin .gtr (.t 6) (.c (.int .u8 126))⟩, ⟨.some 8, .none, .pick (.t 5) (.c (.bool true)) (.t 7)⟩, ⟨.some 9, .none, .mv (.t 8)⟩, ⟨.some 10, .some (9, false), .mv (.t 0)⟩, ⟨.some 11, .some (9, false), .bin .eql (.t 10) (.c (.int .u8 59))⟩, ⟨.some 12, .none, .pick (.t 9) (.c (.bool true)) (.t 11)⟩, ⟨.some 2, .none, .mv (.t 12)⟩]) .ret)))
/-- transhipment/block.value -/
def d53 : Def := (.code 1 [.tmp 2] (.seq (.rg false [⟨.some 2, .none, .mv (.c (.bool false))⟩]) (.seq (.rg false [⟨.some 3, .none, .mv (.f 69)⟩]) (.seq (.rg false [⟨.some 4, .none, .mv (.t 0)⟩, ⟨.some 5, .none, .bin .neq (.t 4) (.c (.string ⟨#[]⟩))⟩, ⟨.some 6, .none, .mv (.t 5)⟩, ⟨.some 7, .some (6, true), .mv (.t 0)⟩, ⟨.some 8, .some (6, true), .lenS (.t 7)⟩, ⟨.some 9, .some (6, true), .bin .leq (.t 8) (.c (.int .i64 200))⟩, ⟨.some 10, .none, .pick (.t 6) (.t 9) (.c (.bool false))⟩, ⟨.some 11, .none, .mv (.t 10)⟩, ⟨.some 12, .some (11, true), .mv (.t 0)⟩, ⟨.some 13, .some (11, true), .call 70 .pure [.t 12, .c (.string ⟨#[32]⟩)]⟩, ⟨.some 14, .some (11, true), .mv (.t 0)⟩, ⟨.some 15, .some (11, true), .bin .eql (.t 13) (.t 14)⟩, ⟨.some 16, .none, .pick (.t 11) (.t 15) (.c (.bool false))⟩, ⟨.some 17, .none, .mv (.t 16)⟩, ⟨.some 18, .some (17, true), .mv (.t 0)⟩, ⟨.some 19, .some (17, true), .s2b (.t 18)⟩, ⟨.some 20, .some (17, true), .mv (.t 3)⟩, ⟨.some 21, .some (17, true), .call 67 .pure [.t 19, .t 20]⟩, ⟨.some 22, .some (17, true), .un .not (.t 21)⟩, ⟨.some 23, .none, .pick (.t 17) (.t 22) (.c (.bool false))⟩, ⟨.some 2, .none, .mv (.t 23)⟩]) .ret))))
def lda : List (Nat × Def) := [(69, d69), (53, d53), (70, .prim (pureF trimV))]
section
variable {env : Nat → Option Def} {fr : Fr} {σ σ' σ'' : St} {K : Fr → St → Prop} {Q : X → Fr → St → Prop} {p : PV} {bs : List UInt8}
def valC (c : UInt8) : Bool := decide (32 ≤ c.toNat) && decide (c.toNat ≤ 126) && decide (c.toNat ≠ 59)
/-- May a value be? -/
def valD (l : List UInt8) : Bool := !l.isEmpty && decide (l.length ≤ 200) && decide (Lib.trimS l [32] = l) && l.all valC
theorem byteAt_txt {l : List UInt8} {i : Nat} {c : UInt8} (h : l[i]? = some c) : byteAt ⟨l.toArray⟩ i = (c.toNat : Int) := by
  unfold byteAt
  rw [List.toList_toArray, h]
theorem any_not {α : Type} (l : List α) (f g : α → Bool) (h : ∀ x, g x = !f x) : l.any g = !l.all f := by
  rw [Bool.eq_iff_iff]
  simp [h]
theorem ba_nil : (⟨#[]⟩ : ByteArray).toList = [] := ba_toList []
theorem empty_txt (l : List UInt8) : (l == []) = l.isEmpty := by cases l <;> rfl
theorem a49t (H : Has law env) {l : List UInt8} (hn : l.length ≤ 4000000000) : AV env 49 [txt l] = some (.sc (.bool (wordD l))) := by
  have h := a49 H (s := ⟨l.toArray⟩) (by rw [ba_size]; omega)
  rw [h]
  have e : hasB oddW ⟨l.toArray⟩ = !l.all wordC := by
    unfold hasB
    rw [ba_size, found_any (l := l) (f := fun c => !wordC c) (fun i c hc => by
      rw [byteAt_txt hc]
      unfold oddW wordC
      rw [Bool.eq_iff_iff]
      simp
      omega)]
    exact any_not l wordC _ fun _ => rfl
  unfold wordB wordD
  rw [e, ba_size, ba_toList, ba_nil, empty_txt]
  congr 3
  rw [Bool.not_not]
  congr 2
  rw [Bool.eq_iff_iff]
  simp
  omega
theorem a69 (D : Has lda env) (c : Int) : AV env 69 [.sc (.int .u8 c)] = some (.sc (.bool (decide (c < 32) || decide (c > 126) || (c == 59)))) := by
  refine AV_wp (D (69, d69) (by simp [lda])) rfl ?_
  (repeat' first
    | refine w_seq ?_ | refine w_rg ?_ | refine wo_nil ?_ | refine g_skU ?_
    | ((first | apply s_plain | apply s_void | apply s_guard); · simp only [go_sem, Nat.reduceEqDiff, Nat.reduceAdd, Nat.reduceLeDiff]; (first | done | rfl))
    | ((first | apply g_T | apply g_F); · intro hb; simp only [go_sem, Nat.reduceEqDiff, Nat.reduceAdd, Nat.reduceLeDiff, hb]; (first | done | rfl))
    | ((first | apply g_gT | apply g_gF); · intro hb hc; simp only [go_sem, Nat.reduceEqDiff, Nat.reduceAdd, Nat.reduceLeDiff, hb, hc]; (first | done | rfl))
    | refine g_skT ?_ | refine g_skF ?_
    | ((first | apply g_goT | apply g_goF); · simp only [go_sem, Nat.reduceEqDiff, Nat.reduceAdd, Nat.reduceLeDiff]; (first | done | rfl))
    | (refine w_condT ?_ ?_; · simp only [go_sem, Nat.reduceEqDiff, Nat.reduceAdd, Nat.reduceLeDiff]; (first | done | rfl))
    | (refine w_condF ?_ ?_; · simp only [go_sem, Nat.reduceEqDiff, Nat.reduceAdd, Nat.reduceLeDiff]; (first | done | rfl))
    | refine w_skip ?_ | refine w_exit ?_ | refine w_ret ?_
    | fail
    )
  exact ⟨by first | exact .inr rfl | exact .inr trivial | exact .inl rfl, by simp only [go_sem, Nat.reduceEqDiff, Nat.reduceAdd, Nat.reduceLeDiff, retOf, resOf]; first | done | rfl⟩
theorem a70 (D : Has lda env) {s t : List UInt8} (hs : s.length ≤ 4000000000) (ht : t.length ≤ 4000000000) (ha : (t.all fun b => decide (b.toNat < 128)) = true) : AV env 70 [txt s, txt t] = some (txt (Lib.trimS s t)) := by
  have h := D (70, .prim (pureF trimV)) (by simp [lda])
  refine AV_of (σ := St.nil) (r := txt (Lib.trimS s t)) ?_ rfl
  rw [EV_prim h]
  have hc : trimC ⟨s.toArray⟩ ⟨t.toArray⟩ = true := by
    unfold trimC
    rw [ba_size, ba_size, List.toList_toArray, ha]
    simp; omega
  simp only [pureF, mapM_cons', mapM_nil', scOf, Option.bind_some, trimV, str2V, hc, if_true, List.toList_toArray, Option.map_some]
theorem a53 (A : Has law env) (D : Has lda env) {l : List UInt8} (hn : l.length ≤ 4000000000) : AV env 53 [txt l] = some (.sc (.bool (valD l))) := by
  have h67 := a67b (law_lax A) (s := ⟨l.toArray⟩) (k := 69) (by rw [ba_size]; omega) (a69 D)
  have h70 := a70 D (s := l) (t := [32]) hn (by simp) (by decide)
  have e : decide (found (fun i => decide (byteAt ⟨l.toArray⟩ i < 32) || decide (byteAt ⟨l.toArray⟩ i > 126) || (byteAt ⟨l.toArray⟩ i == 59)) (⟨l.toArray⟩ : ByteArray).size ≥ 0) = !l.all valC := by
    rw [ba_size, found_any (l := l) (f := fun c => !valC c) (fun i c hc => by
      rw [byteAt_txt hc]
      unfold valC
      rw [Bool.eq_iff_iff]
      simp
      omega)]
    exact any_not l valC _ fun _ => rfl
  rw [e] at h67
  refine AV_wp (D (53, d53) (by simp [lda])) rfl ?_
  (repeat' first
    | refine w_seq ?_ | refine w_rg ?_ | refine wo_nil ?_ | refine g_skU ?_
    | ((first | apply s_plain | apply s_void | apply s_guard); · simp only [go_sem, Nat.reduceEqDiff, Nat.reduceAdd, Nat.reduceLeDiff, h67, h70, ba_data, ba_size, ba_toList, ba_extract, ba_append, List.toList_toArray, ba_nil]; (first | done | rfl))
    | ((first | apply g_T | apply g_F); · intro hb; simp only [go_sem, Nat.reduceEqDiff, Nat.reduceAdd, Nat.reduceLeDiff, h67, h70, ba_data, ba_size, ba_toList, ba_extract, ba_append, List.toList_toArray, ba_nil, hb]; (first | done | rfl))
    | ((first | apply g_gT | apply g_gF); · intro hb hc; simp only [go_sem, Nat.reduceEqDiff, Nat.reduceAdd, Nat.reduceLeDiff, h67, h70, ba_data, ba_size, ba_toList, ba_extract, ba_append, List.toList_toArray, ba_nil, hb, hc]; (first | done | rfl))
    | refine g_skT ?_ | refine g_skF ?_
    | ((first | apply g_goT | apply g_goF); · simp only [go_sem, Nat.reduceEqDiff, Nat.reduceAdd, Nat.reduceLeDiff, h67, h70, ba_data, ba_size, ba_toList, ba_extract, ba_append, List.toList_toArray, ba_nil]; (first | done | rfl))
    | (refine w_condT ?_ ?_; · simp only [go_sem, Nat.reduceEqDiff, Nat.reduceAdd, Nat.reduceLeDiff, h67, h70, ba_data, ba_size, ba_toList, ba_extract, ba_append, List.toList_toArray, ba_nil]; (first | done | rfl))
    | (refine w_condF ?_ ?_; · simp only [go_sem, Nat.reduceEqDiff, Nat.reduceAdd, Nat.reduceLeDiff, h67, h70, ba_data, ba_size, ba_toList, ba_extract, ba_append, List.toList_toArray, ba_nil]; (first | done | rfl))
    | refine w_skip ?_ | refine w_exit ?_ | refine w_ret ?_
    | fail
    )
  have ee : ((!(l == [])) && decide ((l.length : Int) ≤ 200) && (Lib.trimS l [32] == l) && !!l.all valC) = valD l := by
    unfold valD
    rw [empty_txt, Bool.not_not]
    congr 2
    · congr 1
      rw [Bool.eq_iff_iff]; simp; omega
    · rw [Bool.eq_iff_iff]; simp
  exact ⟨by first | exact .inr rfl | exact .inr trivial | exact .inl rfl, by simp only [go_sem, Nat.reduceEqDiff, Nat.reduceAdd, Nat.reduceLeDiff, retOf, resOf, ee]; first | done | rfl⟩
end
end Go.Proofs.YtdlfomiclkpibaaDoorPv
namespace Go.Proofs.YtdlfomiclkpibaaDoorPv
open Go
set_option linter.unusedSimpArgs false
set_option linter.unusedVariables false
set_option maxHeartbeats 4000000
attribute [local go_sem ↓] e_mv e_pick e_bin e_eqs e_beq e_un e_cvi e_str e_s2b e_b2s e_box e_build e_bsl e_ld e_st e_nck e_mkf e_slcS e_slcL e_fa e_fld e_ia e_iaa e_ix e_ixa e_ext e_lenS e_lenL e_mnmx e_app e_appb e_bbx e_msl e_clr e_call e_callv pa_t pa_c pa_f slcSP_str hiOf_some hiOf_none loOf_some loOf_none set_eq set_ne
attribute [local go_sem] pv pv1 simple frOf_0 frOf_1 frOf_2 frOf_3 frOf_4 frOf_5 ne_eq not_false_eq_true if_true Bool.false_eq_true if_false pbin punary Option.map_some Option.bind_some pick_and pick_or opt_true Bool.true_and Bool.and_self Bool.and_true Bool.true_or Bool.false_or Bool.not_true Bool.not_false callE pcall_eq List.map_cons List.map_nil List.append_nil List.nil_append List.cons_append mapM_cons' mapM_nil' dep_eq fz_sc fz_sl fz_em fz_fn fz_fp fz_agg fz_tu fz_bx fz_ob Nat.lt_irrefl Nat.zero_lt_one Nat.lt_add_one flat clL cl Bool.or_true okc_sc okc_em okc_sl okc_ob okc_bx okc_fp okc_fn okc_agg okc_ifc cells_agg cells_sc cells_sl cells_em cells_ob cells_fn cells_bx cells_fp List.length_cons List.length_nil Nat.zero_add and_self true_and and_true new_m new_c put_m put_c nil_m nil_c deref List.getElem?_cons_zero List.getElem?_cons_succ List.drop_zero List.drop_succ_cons List.take_succ_cons List.take_zero Nat.le_refl false_and and_false decide_true decide_false lenP_em lenP_nil lenP_sl lenP_ob Int.ofNat_zero
set_option maxRecDepth 8000
/-- slices.Index[[]string,string] -/
def d37 : Def := (.code 2 [.tmp 4] (.seq (.rg false [⟨.some 4, .none, .mv (.c (.int .i64 0))⟩]) (.seq (.seq (.rg false [⟨.some 6, .none, .mv (.t 0)⟩, ⟨.some 7, .none, .lenL (.t 6)⟩, ⟨.some 8, .none, .mv (.c (.int .i64 0))⟩]) (.block 0 (.loop (.seq (.rg false [⟨.some 9, .none, .bin .lss (.t 8) (.t 7)⟩]) (.seq (.cond (.t 9) .skip (.exit 0)) (.seq (.block 1 (.seq (.rg false [⟨.some 10, .none, .mv (.t 8)⟩, ⟨.some 5, .none, .mv (.t 10)⟩]) (.seq (.rg false [⟨.some 11, .none, .mv (.t 1)⟩, ⟨.some 12, .none, .mv (.t 0)⟩, ⟨.some 13, .none, .mv (.t 5)⟩, ⟨.some 14, .none, .ia 1 (.t 12) (.t 13)⟩, ⟨.some 15, .none, .ld .none (.t 14)⟩, ⟨.some 16, .none, .bin .eql (.t 11) (.t 15)⟩]) (.cond (.t 16) (.seq (.rg false [⟨.some 17, .none, .mv (.t 5)⟩, ⟨.some 4, .none, .mv (.t 17)⟩]) .ret) .skip)))) (.rg false [⟨.some 18, .none, .bin .add (.t 8) (.c (.int .i64 1))⟩, ⟨.some 8, .none, .mv (.t 18)⟩]))))))) (.seq (.rg false [⟨.some 4, .none, .mv (.c (.int .i64 (-1)))⟩]) .ret))))
/-- slices.Contains[[]string,string] -/
def d50 : Def := (.code 2 [.tmp 4] (.seq (.rg false [⟨.some 4, .none, .mv (.c (.bool false))⟩]) (.seq (.rg false [⟨.some 5, .none, .mv (.t 0)⟩, ⟨.some 6, .none, .mv (.t 1)⟩, ⟨.some 7, .none, .call 37 .pure [.t 5, .t 6]⟩, ⟨.some 8, .none, .bin .geq (.t 7) (.c (.int .i64 0))⟩, ⟨.some 4, .none, .mv (.t 8)⟩]) .ret)))
/-- transhipment/block.may$1 -/
def d52 : Def := (.code 1 [.tmp 2] (.seq (.rg false [⟨.some 2, .none, .mv (.c (.bool false))⟩]) (.seq (.rg false [⟨.some 3, .none, .mv (.t 0)⟩, ⟨.some 4, .none, .call 53 .pure [.t 3]⟩, ⟨.some 5, .none, .un .not (.t 4)⟩, ⟨.some 2, .none, .mv (.t 5)⟩]) .ret)))
/-- transhipment/block.may -/
def d29 : Def := (.code 1 [.tmp 2] (.seq (.rg false [⟨.some 1, .none, .box (.t 0)⟩, ⟨.some 2, .none, .mv (.c (.bool false))⟩]) (.seq (.seq (.rg false [⟨.some 5, .none, .fa 1 (.t 1)⟩, ⟨.some 6, .none, .ld .none (.t 5)⟩, ⟨.some 7, .none, .lenL (.t 6)⟩, ⟨.some 8, .none, .mv (.c (.int .i64 0))⟩]) (.block 0 (.loop (.seq (.rg false [⟨.some 9, .none, .bin .lss (.t 8) (.t 7)⟩]) (.seq (.cond (.t 9) .skip (.exit 0)) (.seq (.block 1 (.seq (.rg false [⟨.some 10, .none, .mv (.t 8)⟩, ⟨.some 11, .none, .ia 1 (.t 6) (.t 8)⟩, ⟨.some 12, .none, .ld .none (.t 11)⟩, ⟨.some 3, .none, .mv (.t 10)⟩, ⟨.some 4, .none, .mv (.t 12)⟩]) (.seq (.rg false [⟨.some 13, .none, .mv (.t 4)⟩, ⟨.some 14, .none, .call 49 .pure [.t 13]⟩, ⟨.some 15, .none, .un .not (.t 14)⟩, ⟨.some 16, .none, .mv (.t 15)⟩, ⟨.some 17, .some (16, false), .fa 1 (.t 1)⟩, ⟨.some 18, .some (16, false), .ld .none (.t 17)⟩, ⟨.some 19, .some (16, false), .mv (.t 3)⟩, ⟨.some 20, .some (16, false), .slcL 1 (.t 18) .none (.some (.t 19))⟩, ⟨.some 21, .some (16, false), .mv (.t 4)⟩, ⟨.some 22, .some (16, false), .call 50 .pure [.t 20, .t 21]⟩, ⟨.some 23, .none, .pick (.t 16) (.c (.bool true)) (.t 22)⟩]) (.cond (.t 23) (.seq (.rg false [⟨.some 2, .none, .mv (.c (.bool false))⟩]) .ret) .skip)))) (.rg false [⟨.some 24, .none, .bin .add (.t 8) (.c (.int .i64 1))⟩, ⟨.some 8, .none, .mv (.t 24)⟩]))))))) (.seq (.rg false [⟨.some 25, .none, .fa 0 (.t 1)⟩, ⟨.some 26, .none, .ld .none (.t 25)⟩, ⟨.some 27, .none, .call 49 .pure [.t 26]⟩, ⟨.some 28, .none, .mv (.t 27)⟩, ⟨.some 29, .some (28, true), .fa 1 (.t 1)⟩, ⟨.some 30, .some (28, true), .ld .none (.t 29)⟩, ⟨.some 31, .some (28, true), .lenL (.t 30)⟩, ⟨.some 32, .some (28, true), .bin .leq (.t 31) (.c (.int .i64 64))⟩, ⟨.some 33, .none, .pick (.t 28) (.t 32) (.c (.bool false))⟩, ⟨.some 34, .none, .mv (.t 33)⟩, ⟨.some 35, .some (34, true), .fa 1 (.t 1)⟩, ⟨.some 36, .some (34, true), .ld .none (.t 35)⟩, ⟨.some 37, .some (34, true), .lenL (.t 36)⟩, ⟨.some 38, .some (34, true), .fa 2 (.t 1)⟩, ⟨.some 39, .some (34, true), .ld .none (.t 38)⟩, ⟨.some 40, .some (34, true), .lenL (.t 39)⟩, ⟨.some 41, .some (34, true), .bin .eql (.t 37) (.t 40)⟩, ⟨.some 42, .none, .pick (.t 34) (.t 41) (.c (.bool false))⟩, ⟨.some 43, .none, .mv (.t 42)⟩, ⟨.some 44, .some (43, true), .fa 2 (.t 1)⟩, ⟨.some 45, .some (43, true), .ld .none (.t 44)⟩, ⟨.some 46, .some (43, true), .call 51 .pure [.t 45, .f 52]⟩, ⟨.some 47, .some (43, true), .un .not (.t 46)⟩, ⟨.some 48, .none, .pick (.t 43) (.t 47) (.c (.bool false))⟩, ⟨.some 2, .none, .mv (.t 48)⟩]) .ret))))
/-- transhipment/block.Right$1 -/
def d28 : Def := (.code 1 [.tmp 2] (.seq (.rg false [⟨.some 1, .none, .box (.t 0)⟩, ⟨.some 2, .none, .mv (.c (.bool false))⟩]) (.seq (.rg false [⟨.some 3, .none, .ld (.some 3) (.t 1)⟩, ⟨.some 4, .none, .call 29 .pure [.t 3]⟩, ⟨.some 5, .none, .un .not (.t 4)⟩, ⟨.some 2, .none, .mv (.t 5)⟩]) .ret)))
/-- transhipment/block.Right -/
def d9 : Def := (.code 1 [.tmp 2] (.seq (.rg false [⟨.some 2, .none, .mv (.c (.bool false))⟩]) (.seq (.rg false [⟨.some 3, .none, .mv (.t 0)⟩, ⟨.some 4, .none, .lenL (.t 3)⟩, ⟨.some 5, .none, .bin .leq (.t 4) (.c (.int .i64 64))⟩, ⟨.some 6, .none, .mv (.t 5)⟩, ⟨.some 7, .some (6, true), .mv (.t 0)⟩, ⟨.some 8, .some (6, true), .call 27 .pure [.t 7, .f 28]⟩, ⟨.some 9, .some (6, true), .un .not (.t 8)⟩, ⟨.some 10, .none, .pick (.t 6) (.t 9) (.c (.bool false))⟩, ⟨.some 2, .none, .mv (.t 10)⟩]) .ret)))
/-- slices.Equal[[]string,string] -/
def d35 : Def := (.code 2 [.tmp 4] (.seq (.rg false [⟨.some 4, .none, .mv (.c (.bool false))⟩]) (.seq (.seq (.rg false [⟨.some 6, .none, .mv (.t 0)⟩, ⟨.some 7, .none, .lenL (.t 6)⟩, ⟨.some 8, .none, .mv (.t 1)⟩, ⟨.some 9, .none, .lenL (.t 8)⟩, ⟨.some 10, .none, .bin .neq (.t 7) (.t 9)⟩]) (.cond (.t 10) (.seq (.rg false [⟨.some 4, .none, .mv (.c (.bool false))⟩]) .ret) .skip)) (.seq (.seq (.rg false [⟨.some 11, .none, .mv (.t 0)⟩, ⟨.some 12, .none, .lenL (.t 11)⟩, ⟨.some 13, .none, .mv (.c (.int .i64 0))⟩]) (.block 0 (.loop (.seq (.rg false [⟨.some 14, .none, .bin .lss (.t 13) (.t 12)⟩]) (.seq (.cond (.t 14) .skip (.exit 0)) (.seq (.block 1 (.seq (.rg false [⟨.some 15, .none, .mv (.t 13)⟩, ⟨.some 5, .none, .mv (.t 15)⟩]) (.seq (.rg true [⟨.some 16, .none, .mv (.t 0)⟩, ⟨.some 17, .none, .mv (.t 5)⟩, ⟨.some 18, .none, .ia 1 (.t 16) (.t 17)⟩, ⟨.some 19, .none, .ld .none (.t 18)⟩, ⟨.some 20, .none, .mv (.t 1)⟩, ⟨.some 21, .none, .mv (.t 5)⟩, ⟨.some 22, .none, .ia 1 (.t 20) (.t 21)⟩, ⟨.some 23, .none, .ld .none (.t 22)⟩, ⟨.some 24, .none, .bin .neq (.t 19) (.t 23)⟩]) (.cond (.t 24) (.seq (.rg false [⟨.some 4, .none, .mv (.c (.bool false))⟩]) .ret) .skip)))) (.rg false [⟨.some 25, .none, .bin .add (.t 13) (.c (.int .i64 1))⟩, ⟨.some 13, .none, .mv (.t 25)⟩]))))))) (.seq (.rg false [⟨.some 4, .none, .mv (.c (.bool true))⟩]) .ret)))))
/-- transhipment/block.Like$1 -/
def d34 : Def := (.code 2 [.tmp 4] (.seq (.rg false [⟨.some 2, .none, .box (.t 0)⟩, ⟨.some 3, .none, .box (.t 1)⟩, ⟨.some 4, .none, .mv (.c (.bool false))⟩]) (.seq (.rg false [⟨.some 5, .none, .fa 0 (.t 2)⟩, ⟨.some 6, .none, .ld .none (.t 5)⟩, ⟨.some 7, .none, .fa 0 (.t 3)⟩, ⟨.some 8, .none, .ld .none (.t 7)⟩, ⟨.some 9, .none, .bin .eql (.t 6) (.t 8)⟩, ⟨.some 10, .none, .mv (.t 9)⟩, ⟨.some 11, .some (10, true), .fa 1 (.t 2)⟩, ⟨.some 12, .some (10, true), .ld .none (.t 11)⟩, ⟨.some 13, .some (10, true), .fa 1 (.t 3)⟩, ⟨.some 14, .some (10, true), .ld .none (.t 13)⟩, ⟨.some 15, .some (10, true), .call 35 .pure [.t 12, .t 14]⟩, ⟨.some 16, .none, .pick (.t 10) (.t 15) (.c (.bool false))⟩, ⟨.some 17, .none, .mv (.t 16)⟩, ⟨.some 18, .some (17, true), .fa 2 (.t 2)⟩, ⟨.some 19, .some (17, true), .ld .none (.t 18)⟩, ⟨.some 20, .some (17, true), .fa 2 (.t 3)⟩, ⟨.some 21, .some (17, true), .ld .none (.t 20)⟩, ⟨.some 22, .some (17, true), .call 35 .pure [.t 19, .t 21]⟩, ⟨.some 23, .none, .pick (.t 17) (.t 22) (.c (.bool false))⟩, ⟨.some 4, .none, .mv (.t 23)⟩]) .ret)))
/-- transhipment/block.Like -/
def d11 : Def := (.code 2 [.tmp 4] (.seq (.rg false [⟨.some 4, .none, .mv (.c (.bool false))⟩]) (.seq (.rg false [⟨.some 5, .none, .mv (.t 0)⟩, ⟨.some 6, .none, .mv (.t 1)⟩, ⟨.some 7, .none, .call 33 .pure [.t 5, .t 6, .f 34]⟩, ⟨.some 4, .none, .mv (.t 7)⟩]) .ret)))
/-- transhipment/block.Get -/
def d14 : Def := (.code 2 [.tmp 4, .tmp 5] (.seq (.rg false [⟨.some 2, .none, .box (.t 0)⟩, ⟨.some 4, .none, .mv (.c (.string ⟨#[]⟩))⟩, ⟨.some 5, .none, .mv (.c (.int .i64 0))⟩]) (.seq (.rg false [⟨.some 7, .none, .fa 1 (.t 2)⟩, ⟨.some 8, .none, .ld .none (.t 7)⟩, ⟨.some 9, .none, .mv (.t 1)⟩, ⟨.some 10, .none, .call 37 .pure [.t 8, .t 9]⟩, ⟨.some 6, .none, .mv (.t 10)⟩]) (.seq (.seq (.rg false [⟨.some 11, .none, .mv (.t 6)⟩, ⟨.some 12, .none, .bin .lss (.t 11) (.c (.int .i64 0))⟩, ⟨.some 13, .none, .mv (.t 12)⟩, ⟨.some 14, .some (13, false), .mv (.t 6)⟩, ⟨.some 15, .some (13, false), .fa 2 (.t 2)⟩, ⟨.some 16, .some (13, false), .ld .none (.t 15)⟩, ⟨.some 17, .some (13, false), .lenL (.t 16)⟩, ⟨.some 18, .some (13, false), .bin .geq (.t 14) (.t 17)⟩, ⟨.some 19, .none, .pick (.t 13) (.c (.bool true)) (.t 18)⟩]) (.cond (.t 19) (.seq (.rg false [⟨.some 4, .none, .mv (.c (.string ⟨#[]⟩))⟩, ⟨.some 5, .none, .mv (.c (.int .i64 9))⟩]) .ret) .skip)) (.seq (.rg false [⟨.some 20, .none, .fa 2 (.t 2)⟩, ⟨.some 21, .none, .ld .none (.t 20)⟩, ⟨.some 22, .none, .mv (.t 6)⟩, ⟨.some 23, .none, .ia 1 (.t 21) (.t 22)⟩, ⟨.some 24, .none, .ld .none (.t 23)⟩, ⟨.some 4, .none, .mv (.t 24)⟩, ⟨.some 5, .none, .mv (.c (.int .i64 0))⟩]) .ret)))))
def ldb : List (Nat × Def) := [(37, d37), (50, d50)]
def ldc : List (Nat × Def) := [(68, dIdxF 1 none), (51, dConF 68), (52, d52), (29, d29), (28, d28), (48, dIdxF 3 (some 3)), (27, dConF 48), (9, d9)]
def ldd : List (Nat × Def) := [(35, d35), (34, d34), (33, dEqF 3 #[.string ⟨#[]⟩, .slice none 0 0, .slice none 0 0]), (11, d11)]
def lde : List (Nat × Def) := [(14, d14)]
/-- Texts, by their bytes. -/
def txts (l : List (List UInt8)) : List PV := l.map txt
structure Df where
  ty : List UInt8
  ks : List (List UInt8)
  vs : List (List UInt8)
  deriving DecidableEq
def df (d : Df) : PV := .agg [txt d.ty, .sl (txts d.ks), .sl (txts d.vs)]
def dfs (l : List Df) : List PV := l.map df
/-- Short enough to be told. -/
def SmT (l : List UInt8) : Prop := l.length ≤ 4000000000
structure Df.Sm (d : Df) : Prop where
  ty : SmT d.ty
  ks : d.ks.length ≤ 4000000000 ∧ ∀ k ∈ d.ks, SmT k
  vs : d.vs.length ≤ 4000000000 ∧ ∀ v ∈ d.vs, SmT v
section
variable {env : Nat → Option Def} {fr : Fr} {σ σ' σ'' : St} {K : Fr → St → Prop} {Q : X → Fr → St → Prop} {p : PV} {bs : List UInt8}
theorem txts_len (l : List (List UInt8)) : (txts l).length = l.length := by simp [txts]
theorem txts_at {l : List (List UInt8)} {i : Nat} {s : List UInt8} (h : l[i]? = some s) : (txts l)[i]? = some (txt s) := by simp [txts, h]
theorem txts_all (l : List (List UInt8)) : (txts l).all (fun x => (cellsOf x).length == 1) = true := by
  rw [List.all_eq_true]
  intro x hx
  simp only [txts, List.mem_map] at hx
  obtain ⟨m, _, rfl⟩ := hx
  rfl
theorem txts_fz (σ : St) (d : Nat) (l : List (List UInt8)) : (txts l).mapM (fz σ (d + 1)) = some (txts l) := by
  induction l with
  | nil => rfl
  | cons m r ih =>
    show List.mapM (fz σ (d + 1)) (txt m :: txts r) = _
    rw [mapM_cons', ih]
    rfl
theorem txts_elems (l : List (List UInt8)) : Elems 1 none (txts l) := fun i e h => by
  simp only [txts, List.getElem?_map] at h
  obtain ⟨s, _, rfl⟩ := Option.map_eq_some_iff.1 h
  exact ⟨rfl, rfl⟩
theorem dfs_len (l : List Df) : (dfs l).length = l.length := by simp [dfs]
theorem dfs_at {l : List Df} {i : Nat} {d : Df} (h : l[i]? = some d) : (dfs l)[i]? = some (df d) := by simp [dfs, h]
theorem dfs_elems (l : List Df) : Elems 3 (some 3) (dfs l) := fun i e h => by
  simp only [dfs, List.getElem?_map] at h
  obtain ⟨s, _, rfl⟩ := Option.map_eq_some_iff.1 h
  exact ⟨rfl, rfl⟩
theorem dfs_aggs (l : List Df) : Aggs 3 (dfs l) := fun i e h => by
  simp only [dfs, List.getElem?_map] at h
  obtain ⟨s, _, rfl⟩ := Option.map_eq_some_iff.1 h
  exact ⟨_, rfl, rfl⟩
theorem slcLP_sl (es : Nat) (fr : Fr) (xs : List PV) (lo hi : Option PA) : slcLP es fr (.sl xs) lo hi = if xs.all (fun x => (cellsOf x).length == es) then (hiOf xs.length fr hi).bind fun h => (loOf h fr lo).bind fun l => some (.sl ((xs.take h).drop l)) else none := rfl
/-- The place of a text in a row, or -1. -/
def idxT (l : List (List UInt8)) (s : List UInt8) : Int := found (fun i => l[i]? == some s) l.length
theorem a37t (B : Has ldb env) {l : List (List UInt8)} (hn : l.length ≤ 9223372036854775807) (s : List UInt8) : AV env 37 [.sl (txts l), txt s] = some (.sc (.int .i64 (idxT l s))) := by
  refine AV_wp (B (37, d37) (by simp [ldb])) rfl ?_
  have hll := txts_len l
  (repeat' first
    | refine w_seq ?_ | refine w_rg ?_ | refine wo_nil ?_ | refine g_skU ?_
    | ((first | apply s_plain | apply s_void | apply s_guard); · simp only [go_sem, Nat.reduceEqDiff, Nat.reduceAdd, Nat.reduceLeDiff, hll]; (first | done | rfl))
    | ((first | apply g_T | apply g_F); · intro hb; simp only [go_sem, Nat.reduceEqDiff, Nat.reduceAdd, Nat.reduceLeDiff, hll, hb]; (first | done | rfl))
    | ((first | apply g_gT | apply g_gF); · intro hb hc; simp only [go_sem, Nat.reduceEqDiff, Nat.reduceAdd, Nat.reduceLeDiff, hll, hb, hc]; (first | done | rfl))
    | refine g_skT ?_ | refine g_skF ?_
    | ((first | apply g_goT | apply g_goF); · simp only [go_sem, Nat.reduceEqDiff, Nat.reduceAdd, Nat.reduceLeDiff, hll]; (first | done | rfl))
    | fail
    )
  refine w_block (w_rangeF l.length hn (fun i fr σ => ∀ j, j < i → (l[j]? == some s) = false) ⟨by decide, rfl, rfl⟩ (fun _ _ _ _ h => ⟨h, h, h⟩) (fun j hj => by omega) (by simp only [go_sem, Nat.reduceEqDiff, Nat.reduceAdd, Nat.reduceLeDiff]; first | done | rfl) (by simp only [go_sem, Nat.reduceEqDiff, Nat.reduceAdd, Nat.reduceLeDiff, hll]; first | done | rfl) ?_ ?_)
  · rintro i fr1 σ1 hi h3 hti hfr
    have f0_0 := hfr 0 rfl; have f0_1 := hfr 1 rfl; have f0_7 := hfr 7 rfl; try (simp only [go_sem, Nat.reduceEqDiff, Nat.reduceAdd, Nat.reduceLeDiff] at f0_0); try (simp only [go_sem, Nat.reduceEqDiff, Nat.reduceAdd, Nat.reduceLeDiff] at f0_1); try (simp only [go_sem, Nat.reduceEqDiff, Nat.reduceAdd, Nat.reduceLeDiff] at f0_7)
    have hq := List.getElem?_eq_getElem hi
    have hx := txts_at hq
    have e1 : (0 : Int) ≤ (i : Int) ∧ (i : Int) < (l.length : Int) := by omega
    refine w_block ?_
    (repeat' first
    | refine w_seq ?_ | refine w_rg ?_ | refine wo_nil ?_ | refine g_skU ?_
    | ((first | apply s_plain | apply s_void | apply s_guard); · simp only [go_sem, Nat.reduceEqDiff, Nat.reduceAdd, Nat.reduceLeDiff, f0_0, f0_1, f0_7, hti, e1, hll, Int.toNat_natCast, hx, ba_data, ba_size, ba_toList, ba_extract, ba_append, List.toList_toArray]; (first | done | rfl))
    | ((first | apply g_T | apply g_F); · intro hb; simp only [go_sem, Nat.reduceEqDiff, Nat.reduceAdd, Nat.reduceLeDiff, f0_0, f0_1, f0_7, hti, e1, hll, Int.toNat_natCast, hx, ba_data, ba_size, ba_toList, ba_extract, ba_append, List.toList_toArray, hb]; (first | done | rfl))
    | ((first | apply g_gT | apply g_gF); · intro hb hc; simp only [go_sem, Nat.reduceEqDiff, Nat.reduceAdd, Nat.reduceLeDiff, f0_0, f0_1, f0_7, hti, e1, hll, Int.toNat_natCast, hx, ba_data, ba_size, ba_toList, ba_extract, ba_append, List.toList_toArray, hb, hc]; (first | done | rfl))
    | refine g_skT ?_ | refine g_skF ?_
    | ((first | apply g_goT | apply g_goF); · simp only [go_sem, Nat.reduceEqDiff, Nat.reduceAdd, Nat.reduceLeDiff, f0_0, f0_1, f0_7, hti, e1, hll, Int.toNat_natCast, hx, ba_data, ba_size, ba_toList, ba_extract, ba_append, List.toList_toArray]; (first | done | rfl))
    | fail
    )
    have hb : (s == l[i]) = (l[i]? == some s) := by rw [hq, Bool.eq_iff_iff, beq_iff_eq, beq_iff_eq, Option.some.injEq]; exact eq_comm
    rw [hb]
    cases hpi : (l[i]? == some s) with
    | true =>
      (repeat' first
    | refine w_seq ?_ | refine w_rg ?_ | refine wo_nil ?_ | refine g_skU ?_
    | ((first | apply s_plain | apply s_void | apply s_guard); · simp only [go_sem, Nat.reduceEqDiff, Nat.reduceAdd, Nat.reduceLeDiff]; (first | done | rfl))
    | ((first | apply g_T | apply g_F); · intro hb; simp only [go_sem, Nat.reduceEqDiff, Nat.reduceAdd, Nat.reduceLeDiff, hb]; (first | done | rfl))
    | ((first | apply g_gT | apply g_gF); · intro hb hc; simp only [go_sem, Nat.reduceEqDiff, Nat.reduceAdd, Nat.reduceLeDiff, hb, hc]; (first | done | rfl))
    | refine g_skT ?_ | refine g_skF ?_
    | ((first | apply g_goT | apply g_goF); · simp only [go_sem, Nat.reduceEqDiff, Nat.reduceAdd, Nat.reduceLeDiff]; (first | done | rfl))
    | (refine w_condT ?_ ?_; · simp only [go_sem, Nat.reduceEqDiff, Nat.reduceAdd, Nat.reduceLeDiff]; (first | done | rfl))
    | (refine w_condF ?_ ?_; · simp only [go_sem, Nat.reduceEqDiff, Nat.reduceAdd, Nat.reduceLeDiff]; (first | done | rfl))
    | refine w_skip ?_ | refine w_exit ?_ | refine w_ret ?_
    | fail
    )
      have hf : idxT l s = i := found_hit (p := fun i => l[i]? == some s) hi h3 hpi
      exact ⟨by first | exact .inr rfl | exact .inr trivial | exact .inl rfl, by simp only [go_sem, Nat.reduceEqDiff, Nat.reduceAdd, Nat.reduceLeDiff, retOf, resOf, hf]; first | done | rfl⟩
    | false =>
      (repeat' first
    | refine w_seq ?_ | refine w_rg ?_ | refine wo_nil ?_ | refine g_skU ?_
    | ((first | apply s_plain | apply s_void | apply s_guard); · simp only [go_sem, Nat.reduceEqDiff, Nat.reduceAdd, Nat.reduceLeDiff]; (first | done | rfl))
    | ((first | apply g_T | apply g_F); · intro hb; simp only [go_sem, Nat.reduceEqDiff, Nat.reduceAdd, Nat.reduceLeDiff, hb]; (first | done | rfl))
    | ((first | apply g_gT | apply g_gF); · intro hb hc; simp only [go_sem, Nat.reduceEqDiff, Nat.reduceAdd, Nat.reduceLeDiff, hb, hc]; (first | done | rfl))
    | refine g_skT ?_ | refine g_skF ?_
    | ((first | apply g_goT | apply g_goF); · simp only [go_sem, Nat.reduceEqDiff, Nat.reduceAdd, Nat.reduceLeDiff]; (first | done | rfl))
    | (refine w_condT ?_ ?_; · simp only [go_sem, Nat.reduceEqDiff, Nat.reduceAdd, Nat.reduceLeDiff]; (first | done | rfl))
    | (refine w_condF ?_ ?_; · simp only [go_sem, Nat.reduceEqDiff, Nat.reduceAdd, Nat.reduceLeDiff]; (first | done | rfl))
    | refine w_skip ?_ | refine w_exit ?_ | refine w_ret ?_
    | fail
    )
      intro j hj
      by_cases hji : j = i
      · rw [hji]; exact hpi
      · exact h3 j (by omega)
  · rintro fr1 σ1 h3 hfr
    try simp only [if_true]
    (repeat' first
    | refine w_seq ?_ | refine w_rg ?_ | refine wo_nil ?_ | refine g_skU ?_
    | ((first | apply s_plain | apply s_void | apply s_guard); · simp only [go_sem, Nat.reduceEqDiff, Nat.reduceAdd, Nat.reduceLeDiff]; (first | done | rfl))
    | ((first | apply g_T | apply g_F); · intro hb; simp only [go_sem, Nat.reduceEqDiff, Nat.reduceAdd, Nat.reduceLeDiff, hb]; (first | done | rfl))
    | ((first | apply g_gT | apply g_gF); · intro hb hc; simp only [go_sem, Nat.reduceEqDiff, Nat.reduceAdd, Nat.reduceLeDiff, hb, hc]; (first | done | rfl))
    | refine g_skT ?_ | refine g_skF ?_
    | ((first | apply g_goT | apply g_goF); · simp only [go_sem, Nat.reduceEqDiff, Nat.reduceAdd, Nat.reduceLeDiff]; (first | done | rfl))
    | (refine w_condT ?_ ?_; · simp only [go_sem, Nat.reduceEqDiff, Nat.reduceAdd, Nat.reduceLeDiff]; (first | done | rfl))
    | (refine w_condF ?_ ?_; · simp only [go_sem, Nat.reduceEqDiff, Nat.reduceAdd, Nat.reduceLeDiff]; (first | done | rfl))
    | refine w_skip ?_ | refine w_exit ?_ | refine w_ret ?_
    | fail
    )
    have hf : idxT l s = -1 := found_none (p := fun i => l[i]? == some s) h3
    exact ⟨by first | exact .inr rfl | exact .inr trivial | exact .inl rfl, by simp only [go_sem, Nat.reduceEqDiff, Nat.reduceAdd, Nat.reduceLeDiff, retOf, resOf, hf]; first | done | rfl⟩
theorem idxT_has (l : List (List UInt8)) (s : List UInt8) : decide (idxT l s ≥ 0) = l.contains s := by
  unfold idxT
  rw [found_any (f := fun x => x == s) (fun i x hx => by rw [hx]; rfl)]
  rw [Bool.eq_iff_iff]
  simp
theorem a50t (B : Has ldb env) {l : List (List UInt8)} (hn : l.length ≤ 9223372036854775807) (s : List UInt8) : AV env 50 [.sl (txts l), txt s] = some (.sc (.bool (l.contains s))) := by
  have h := a37t B hn s
  refine AV_wp (B (50, d50) (by simp [ldb])) rfl ?_
  (repeat' first
    | refine w_seq ?_ | refine w_rg ?_ | refine wo_nil ?_ | refine g_skU ?_
    | ((first | apply s_plain | apply s_void | apply s_guard); · simp only [go_sem, Nat.reduceEqDiff, Nat.reduceAdd, Nat.reduceLeDiff, h]; (first | done | rfl))
    | ((first | apply g_T | apply g_F); · intro hb; simp only [go_sem, Nat.reduceEqDiff, Nat.reduceAdd, Nat.reduceLeDiff, h, hb]; (first | done | rfl))
    | ((first | apply g_gT | apply g_gF); · intro hb hc; simp only [go_sem, Nat.reduceEqDiff, Nat.reduceAdd, Nat.reduceLeDiff, h, hb, hc]; (first | done | rfl))
    | refine g_skT ?_ | refine g_skF ?_
    | ((first | apply g_goT | apply g_goF); · simp only [go_sem, Nat.reduceEqDiff, Nat.reduceAdd, Nat.reduceLeDiff, h]; (first | done | rfl))
    | (refine w_condT ?_ ?_; · simp only [go_sem, Nat.reduceEqDiff, Nat.reduceAdd, Nat.reduceLeDiff, h]; (first | done | rfl))
    | (refine w_condF ?_ ?_; · simp only [go_sem, Nat.reduceEqDiff, Nat.reduceAdd, Nat.reduceLeDiff, h]; (first | done | rfl))
    | refine w_skip ?_ | refine w_exit ?_ | refine w_ret ?_
    | fail
    )
  exact ⟨by first | exact .inr rfl | exact .inr trivial | exact .inl rfl, by simp only [go_sem, Nat.reduceEqDiff, Nat.reduceAdd, Nat.reduceLeDiff, retOf, resOf, idxT_has]; first | done | rfl⟩
/-- Keys that may be, each once. -/
def keysOk (l : List (List UInt8)) : Bool := (List.range l.length).all fun i => wordD (l.getD i []) && !(l.take i).contains (l.getD i [])
def mayD (d : Df) : Bool := keysOk d.ks && wordD d.ty && decide (d.ks.length ≤ 64) && decide (d.ks.length = d.vs.length) && d.vs.all valD
def rightD (l : List Df) : Bool := decide (l.length ≤ 64) && l.all mayD
theorem a52 (A : Has law env) (D : Has lda env) (C : Has ldc env) {s : List UInt8} (hs : SmT s) : AV env 52 [txt s] = some (.sc (.bool (!valD s))) := by
  have h := a53 A D hs
  refine AV_wp (C (52, d52) (by simp [ldc])) rfl ?_
  (repeat' first
    | refine w_seq ?_ | refine w_rg ?_ | refine wo_nil ?_ | refine g_skU ?_
    | ((first | apply s_plain | apply s_void | apply s_guard); · simp only [go_sem, Nat.reduceEqDiff, Nat.reduceAdd, Nat.reduceLeDiff, h]; (first | done | rfl))
    | ((first | apply g_T | apply g_F); · intro hb; simp only [go_sem, Nat.reduceEqDiff, Nat.reduceAdd, Nat.reduceLeDiff, h, hb]; (first | done | rfl))
    | ((first | apply g_gT | apply g_gF); · intro hb hc; simp only [go_sem, Nat.reduceEqDiff, Nat.reduceAdd, Nat.reduceLeDiff, h, hb, hc]; (first | done | rfl))
    | refine g_skT ?_ | refine g_skF ?_
    | ((first | apply g_goT | apply g_goF); · simp only [go_sem, Nat.reduceEqDiff, Nat.reduceAdd, Nat.reduceLeDiff, h]; (first | done | rfl))
    | (refine w_condT ?_ ?_; · simp only [go_sem, Nat.reduceEqDiff, Nat.reduceAdd, Nat.reduceLeDiff, h]; (first | done | rfl))
    | (refine w_condF ?_ ?_; · simp only [go_sem, Nat.reduceEqDiff, Nat.reduceAdd, Nat.reduceLeDiff, h]; (first | done | rfl))
    | refine w_skip ?_ | refine w_exit ?_ | refine w_ret ?_
    | fail
    )
  exact ⟨by first | exact .inr rfl | exact .inr trivial | exact .inl rfl, by simp only [go_sem, Nat.reduceEqDiff, Nat.reduceAdd, Nat.reduceLeDiff, retOf, resOf]; first | done | rfl⟩
theorem a51 (A : Has law env) (D : Has lda env) (C : Has ldc env) {l : List (List UInt8)} (hn : l.length ≤ 9223372036854775807) (hs : ∀ k ∈ l, SmT k) : AV env 51 [.sl (txts l), .fn 52 [] []] = some (.sc (.bool (!l.all valD))) := by
  have h := conF_g (env := env) (k0 := 68) (k1 := 51) (C (51, dConF 68) (by simp [ldc])) (xs := txts l) (k := 52) (a := []) (b := []) (fun _ => rfl) (fun _ => rfl)
    (idxF_g (C (68, dIdxF 1 none) (by simp [ldc])) (q := fun i => !valD (l.getD i [])) (by rw [txts_len]; exact hn) (txts_elems l) (fun i e h σ => by
      simp only [txts, List.getElem?_map] at h
      obtain ⟨s, _, rfl⟩ := Option.map_eq_some_iff.1 h
      rfl) (fun i e h => by
      simp only [txts, List.getElem?_map] at h
      obtain ⟨s, h2, rfl⟩ := Option.map_eq_some_iff.1 h
      rw [List.getD_eq_getElem?_getD, h2]
      exact a52 A D C (hs s (List.mem_of_getElem? h2))))
  rw [h, txts_len, found_any (f := fun x => !valD x) (fun i x hx => by rw [List.getD_eq_getElem?_getD, hx]; rfl)]
  rw [any_not l valD _ fun _ => rfl]
theorem a29 (A : Has law env) (D : Has lda env) (B : Has ldb env) (C : Has ldc env) {d : Df} (h : d.Sm) : AV env 29 [df d] = some (.sc (.bool (mayD d))) := by
  have hll := txts_len d.ks
  have hlv := txts_len d.vs
  have hty := a49t A h.ty
  have hva := a51 A D C (by have := h.vs.1; omega) h.vs.2
  refine AV_wp (C (29, d29) (by simp [ldc])) rfl ?_
  unfold df
  (repeat' first
    | refine w_seq ?_ | refine w_rg ?_ | refine wo_nil ?_ | refine g_skU ?_
    | ((first | apply s_plain | apply s_void | apply s_guard); · simp only [go_sem, Nat.reduceEqDiff, Nat.reduceAdd, Nat.reduceLeDiff, hll]; (first | done | rfl))
    | ((first | apply g_T | apply g_F); · intro hb; simp only [go_sem, Nat.reduceEqDiff, Nat.reduceAdd, Nat.reduceLeDiff, hll, hb]; (first | done | rfl))
    | ((first | apply g_gT | apply g_gF); · intro hb hc; simp only [go_sem, Nat.reduceEqDiff, Nat.reduceAdd, Nat.reduceLeDiff, hll, hb, hc]; (first | done | rfl))
    | refine g_skT ?_ | refine g_skF ?_
    | ((first | apply g_goT | apply g_goF); · simp only [go_sem, Nat.reduceEqDiff, Nat.reduceAdd, Nat.reduceLeDiff, hll]; (first | done | rfl))
    | fail
    )
  refine w_block (w_rangeF d.ks.length (by have := h.ks.1; omega) (fun i fr σ => (∀ j, j < i → (wordD (d.ks.getD j []) && !(d.ks.take j).contains (d.ks.getD j [])) = true) ∧ σ.m 2000001 0 = some ⟨3, [df d], true, true⟩) ⟨by decide, rfl, rfl⟩ (fun _ _ _ _ h => ⟨h, h, h⟩) ⟨fun j hj => by omega, by simp only [go_sem, Nat.reduceEqDiff, Nat.reduceAdd, Nat.reduceLeDiff]; rfl⟩ (by simp only [go_sem, Nat.reduceEqDiff, Nat.reduceAdd, Nat.reduceLeDiff]; first | done | rfl) (by simp only [go_sem, Nat.reduceEqDiff, Nat.reduceAdd, Nat.reduceLeDiff, hll]; first | done | rfl) ?_ ?_)
  · rintro i fr1 σ1 hi ⟨h3, hm⟩ hti hfr
    have f0_1 := hfr 1 rfl; have f0_6 := hfr 6 rfl; have f0_7 := hfr 7 rfl; try (simp only [go_sem, Nat.reduceEqDiff, Nat.reduceAdd, Nat.reduceLeDiff] at f0_1); try (simp only [go_sem, Nat.reduceEqDiff, Nat.reduceAdd, Nat.reduceLeDiff] at f0_6); try (simp only [go_sem, Nat.reduceEqDiff, Nat.reduceAdd, Nat.reduceLeDiff] at f0_7)
    have z1 : fr1 1 = .bx 2000001 0 3 0 0 := by rw [hfr 1 rfl]; simp only [go_sem, Nat.reduceEqDiff, Nat.reduceAdd, Nat.reduceLeDiff]
    have hq := List.getElem?_eq_getElem hi
    have hx := txts_at hq
    have e1 : (0 : Int) ≤ (i : Int) ∧ (i : Int) < (d.ks.length : Int) := by omega
    have b1 : (0 : Int) ≤ (i : Int) ∧ (i : Int) ≤ (d.ks.length : Int) := by omega
    have hw := a49t A (h.ks.2 _ (List.getElem_mem hi))
    have hc := a50t B (l := d.ks.take i) (by rw [List.length_take]; have := h.ks.1; omega) d.ks[i]
    have htk : (txts d.ks).take i = txts (d.ks.take i) := by simp [txts]
    have hall := txts_all d.ks
    have hg : d.ks.getD i [] = d.ks[i] := by rw [List.getD_eq_getElem?_getD, hq]; rfl
    refine w_block ?_
    unfold df at hm
    (repeat' first
    | refine w_seq ?_ | refine w_rg ?_ | refine wo_nil ?_ | refine g_skU ?_
    | ((first | apply s_plain | apply s_void | apply s_guard); · simp only [go_sem, Nat.reduceEqDiff, Nat.reduceAdd, Nat.reduceLeDiff, f0_1, f0_6, f0_7, z1, hti, e1, hll, Int.toNat_natCast, hx, hw, hm]; (first | done | rfl))
    | ((first | apply g_T | apply g_F); · intro hb; simp only [go_sem, Nat.reduceEqDiff, Nat.reduceAdd, Nat.reduceLeDiff, f0_1, f0_6, f0_7, z1, hti, e1, hll, Int.toNat_natCast, hx, hw, hm, hb]; (first | done | rfl))
    | ((first | apply g_gT | apply g_gF); · intro hb hc; simp only [go_sem, Nat.reduceEqDiff, Nat.reduceAdd, Nat.reduceLeDiff, f0_1, f0_6, f0_7, z1, hti, e1, hll, Int.toNat_natCast, hx, hw, hm, hb, hc]; (first | done | rfl))
    | refine g_skT ?_ | refine g_skF ?_
    | ((first | apply g_goT | apply g_goF); · simp only [go_sem, Nat.reduceEqDiff, Nat.reduceAdd, Nat.reduceLeDiff, f0_1, f0_6, f0_7, z1, hti, e1, hll, Int.toNat_natCast, hx, hw, hm]; (first | done | rfl))
    | fail
    )
    refine g_F (v := .sl (txts (d.ks.take i))) (by
      intro hb
      simp only [go_sem, Nat.reduceEqDiff, Nat.reduceAdd, Nat.reduceLeDiff, hb, slcLP_sl, hall, hll, bound, b1, Int.toNat_natCast, htk, Bool.not_false]) ?_
    (repeat' first
    | refine w_seq ?_ | refine w_rg ?_ | refine wo_nil ?_ | refine g_skU ?_
    | ((first | apply s_plain | apply s_void | apply s_guard); · simp only [go_sem, Nat.reduceEqDiff, Nat.reduceAdd, Nat.reduceLeDiff, hc]; (first | done | rfl))
    | ((first | apply g_T | apply g_F); · intro hb; simp only [go_sem, Nat.reduceEqDiff, Nat.reduceAdd, Nat.reduceLeDiff, hc, hb]; (first | done | rfl))
    | ((first | apply g_gT | apply g_gF); · intro hb hc; simp only [go_sem, Nat.reduceEqDiff, Nat.reduceAdd, Nat.reduceLeDiff, hc, hb, hc]; (first | done | rfl))
    | refine g_skT ?_ | refine g_skF ?_
    | ((first | apply g_goT | apply g_goF); · simp only [go_sem, Nat.reduceEqDiff, Nat.reduceAdd, Nat.reduceLeDiff, hc]; (first | done | rfl))
    | fail
    )
    cases hpi : (wordD (d.ks.getD i []) && !(d.ks.take i).contains (d.ks.getD i [])) with
    | false =>
      have hk : keysOk d.ks = false := all_hit hi hpi
      rw [hg] at hpi
      refine w_condT (by simp only [go_sem, Nat.reduceEqDiff, Nat.reduceAdd, Nat.reduceLeDiff]; revert hpi; generalize wordD d.ks[i] = b1; generalize (d.ks.take i).contains d.ks[i] = b2; cases b1 <;> cases b2 <;> simp) ?_
      (repeat' first
    | refine w_seq ?_ | refine w_rg ?_ | refine wo_nil ?_ | refine g_skU ?_
    | ((first | apply s_plain | apply s_void | apply s_guard); · simp only [go_sem, Nat.reduceEqDiff, Nat.reduceAdd, Nat.reduceLeDiff]; (first | done | rfl))
    | ((first | apply g_T | apply g_F); · intro hb; simp only [go_sem, Nat.reduceEqDiff, Nat.reduceAdd, Nat.reduceLeDiff, hb]; (first | done | rfl))
    | ((first | apply g_gT | apply g_gF); · intro hb hc; simp only [go_sem, Nat.reduceEqDiff, Nat.reduceAdd, Nat.reduceLeDiff, hb, hc]; (first | done | rfl))
    | refine g_skT ?_ | refine g_skF ?_
    | ((first | apply g_goT | apply g_goF); · simp only [go_sem, Nat.reduceEqDiff, Nat.reduceAdd, Nat.reduceLeDiff]; (first | done | rfl))
    | (refine w_condT ?_ ?_; · simp only [go_sem, Nat.reduceEqDiff, Nat.reduceAdd, Nat.reduceLeDiff]; (first | done | rfl))
    | (refine w_condF ?_ ?_; · simp only [go_sem, Nat.reduceEqDiff, Nat.reduceAdd, Nat.reduceLeDiff]; (first | done | rfl))
    | refine w_skip ?_ | refine w_exit ?_ | refine w_ret ?_
    | fail
    )
      exact ⟨by first | exact .inr rfl | exact .inr trivial | exact .inl rfl, by simp only [go_sem, Nat.reduceEqDiff, Nat.reduceAdd, Nat.reduceLeDiff, retOf, resOf, mayD, hk, Bool.false_and]; first | done | rfl⟩
    | true =>
      have hpi' := hpi
      rw [hg] at hpi'
      refine w_condF (by simp only [go_sem, Nat.reduceEqDiff, Nat.reduceAdd, Nat.reduceLeDiff]; revert hpi'; generalize wordD d.ks[i] = b1; generalize (d.ks.take i).contains d.ks[i] = b2; cases b1 <;> cases b2 <;> simp) ?_
      (repeat' first
    | refine w_seq ?_ | refine w_rg ?_ | refine wo_nil ?_ | refine g_skU ?_
    | ((first | apply s_plain | apply s_void | apply s_guard); · simp only [go_sem, Nat.reduceEqDiff, Nat.reduceAdd, Nat.reduceLeDiff]; (first | done | rfl))
    | ((first | apply g_T | apply g_F); · intro hb; simp only [go_sem, Nat.reduceEqDiff, Nat.reduceAdd, Nat.reduceLeDiff, hb]; (first | done | rfl))
    | ((first | apply g_gT | apply g_gF); · intro hb hc; simp only [go_sem, Nat.reduceEqDiff, Nat.reduceAdd, Nat.reduceLeDiff, hb, hc]; (first | done | rfl))
    | refine g_skT ?_ | refine g_skF ?_
    | ((first | apply g_goT | apply g_goF); · simp only [go_sem, Nat.reduceEqDiff, Nat.reduceAdd, Nat.reduceLeDiff]; (first | done | rfl))
    | (refine w_condT ?_ ?_; · simp only [go_sem, Nat.reduceEqDiff, Nat.reduceAdd, Nat.reduceLeDiff]; (first | done | rfl))
    | (refine w_condF ?_ ?_; · simp only [go_sem, Nat.reduceEqDiff, Nat.reduceAdd, Nat.reduceLeDiff]; (first | done | rfl))
    | refine w_skip ?_ | refine w_exit ?_ | refine w_ret ?_
    | fail
    )
      refine ⟨fun j hj => ?_, by simp only [go_sem, Nat.reduceEqDiff, Nat.reduceAdd, Nat.reduceLeDiff, hm, df]⟩
      by_cases hji : j = i
      · rw [hji]; exact hpi
      · exact h3 j (by omega)
  · rintro fr1 σ1 ⟨h3, hm⟩ hfr
    have e0_1 := hfr 1 rfl; try (simp only [go_sem, Nat.reduceEqDiff, Nat.reduceAdd, Nat.reduceLeDiff] at e0_1)
    have hk : keysOk d.ks = true := all_all h3
    try simp only [if_true]
    unfold df at hm
    (repeat' first
    | refine w_seq ?_ | refine w_rg ?_ | refine wo_nil ?_ | refine g_skU ?_
    | ((first | apply s_plain | apply s_void | apply s_guard); · simp only [go_sem, Nat.reduceEqDiff, Nat.reduceAdd, Nat.reduceLeDiff, e0_1, hm, hty, hll, hlv, hva]; (first | done | rfl))
    | ((first | apply g_T | apply g_F); · intro hb; simp only [go_sem, Nat.reduceEqDiff, Nat.reduceAdd, Nat.reduceLeDiff, e0_1, hm, hty, hll, hlv, hva, hb]; (first | done | rfl))
    | ((first | apply g_gT | apply g_gF); · intro hb hc; simp only [go_sem, Nat.reduceEqDiff, Nat.reduceAdd, Nat.reduceLeDiff, e0_1, hm, hty, hll, hlv, hva, hb, hc]; (first | done | rfl))
    | refine g_skT ?_ | refine g_skF ?_
    | ((first | apply g_goT | apply g_goF); · simp only [go_sem, Nat.reduceEqDiff, Nat.reduceAdd, Nat.reduceLeDiff, e0_1, hm, hty, hll, hlv, hva]; (first | done | rfl))
    | (refine w_condT ?_ ?_; · simp only [go_sem, Nat.reduceEqDiff, Nat.reduceAdd, Nat.reduceLeDiff, e0_1, hm, hty, hll, hlv, hva]; (first | done | rfl))
    | (refine w_condF ?_ ?_; · simp only [go_sem, Nat.reduceEqDiff, Nat.reduceAdd, Nat.reduceLeDiff, e0_1, hm, hty, hll, hlv, hva]; (first | done | rfl))
    | refine w_skip ?_ | refine w_exit ?_ | refine w_ret ?_
    | fail
    )
    have e1 : (wordD d.ty && decide ((d.ks.length : Int) ≤ 64) && ((d.ks.length : Int) == (d.vs.length : Int)) && !!d.vs.all valD) = mayD d := by
      unfold mayD
      rw [hk, Bool.not_not, Bool.true_and]
      congr 1
      congr 1
      · congr 1
        rw [Bool.eq_iff_iff]; simp; omega
      · rw [Bool.eq_iff_iff, beq_iff_eq, decide_eq_true_eq, Int.natCast_inj]
    exact ⟨by first | exact .inr rfl | exact .inr trivial | exact .inl rfl, by simp only [go_sem, Nat.reduceEqDiff, Nat.reduceAdd, Nat.reduceLeDiff, retOf, resOf, e1]; first | done | rfl⟩
theorem a28 (A : Has law env) (D : Has lda env) (B : Has ldb env) (C : Has ldc env) {d : Df} (h : d.Sm) : AV env 28 [df d] = some (.sc (.bool (!mayD d))) := by
  have h29 := a29 A D B C h
  refine AV_wp (C (28, d28) (by simp [ldc])) rfl ?_
  unfold df at h29 ⊢
  (repeat' first
    | refine w_seq ?_ | refine w_rg ?_ | refine wo_nil ?_ | refine g_skU ?_
    | ((first | apply s_plain | apply s_void | apply s_guard); · simp only [go_sem, Nat.reduceEqDiff, Nat.reduceAdd, Nat.reduceLeDiff, h29, List.drop_zero]; (first | done | rfl))
    | ((first | apply g_T | apply g_F); · intro hb; simp only [go_sem, Nat.reduceEqDiff, Nat.reduceAdd, Nat.reduceLeDiff, h29, List.drop_zero, hb]; (first | done | rfl))
    | ((first | apply g_gT | apply g_gF); · intro hb hc; simp only [go_sem, Nat.reduceEqDiff, Nat.reduceAdd, Nat.reduceLeDiff, h29, List.drop_zero, hb, hc]; (first | done | rfl))
    | refine g_skT ?_ | refine g_skF ?_
    | ((first | apply g_goT | apply g_goF); · simp only [go_sem, Nat.reduceEqDiff, Nat.reduceAdd, Nat.reduceLeDiff, h29, List.drop_zero]; (first | done | rfl))
    | (refine w_condT ?_ ?_; · simp only [go_sem, Nat.reduceEqDiff, Nat.reduceAdd, Nat.reduceLeDiff, h29, List.drop_zero]; (first | done | rfl))
    | (refine w_condF ?_ ?_; · simp only [go_sem, Nat.reduceEqDiff, Nat.reduceAdd, Nat.reduceLeDiff, h29, List.drop_zero]; (first | done | rfl))
    | refine w_skip ?_ | refine w_exit ?_ | refine w_ret ?_
    | fail
    )
  exact ⟨by first | exact .inr rfl | exact .inr trivial | exact .inl rfl, by simp only [go_sem, Nat.reduceEqDiff, Nat.reduceAdd, Nat.reduceLeDiff, retOf, resOf]; first | done | rfl⟩
def Sms (l : List Df) : Prop := l.length ≤ 4000000000 ∧ ∀ d ∈ l, d.Sm
theorem df_fz (σ : St) (n : Nat) (d : Df) : fz σ (n + 2) (df d) = some (df d) := rfl
theorem a9 (A : Has law env) (D : Has lda env) (B : Has ldb env) (C : Has ldc env) {l : List Df} (hl : Sms l) : AV env 9 [.sl (dfs l)] = some (.sc (.bool (rightD l))) := by
  have hll := dfs_len l
  have h := conF_g (env := env) (k0 := 48) (k1 := 27) (C (27, dConF 48) (by simp [ldc])) (xs := dfs l) (k := 28) (a := []) (b := []) (fun _ => rfl) (fun _ => rfl)
    (idxF_g (C (48, dIdxF 3 (some 3)) (by simp [ldc])) (q := fun i => !mayD (l.getD i ⟨[], [], []⟩)) (by rw [hll]; have := hl.1; omega) (dfs_elems l) (fun i e h σ => by
      simp only [dfs, List.getElem?_map] at h
      obtain ⟨s, _, rfl⟩ := Option.map_eq_some_iff.1 h
      rfl) (fun i e h => by
      simp only [dfs, List.getElem?_map] at h
      obtain ⟨s, h2, rfl⟩ := Option.map_eq_some_iff.1 h
      rw [List.getD_eq_getElem?_getD, h2]
      exact a28 A D B C (hl.2 s (List.mem_of_getElem? h2))))
  rw [hll, found_any (f := fun x => !mayD x) (fun i x hx => by rw [List.getD_eq_getElem?_getD, hx]; rfl), any_not l mayD _ fun _ => rfl] at h
  refine AV_wp (C (9, d9) (by simp [ldc])) rfl ?_
  (repeat' first
    | refine w_seq ?_ | refine w_rg ?_ | refine wo_nil ?_ | refine g_skU ?_
    | ((first | apply s_plain | apply s_void | apply s_guard); · simp only [go_sem, Nat.reduceEqDiff, Nat.reduceAdd, Nat.reduceLeDiff, hll, h]; (first | done | rfl))
    | ((first | apply g_T | apply g_F); · intro hb; simp only [go_sem, Nat.reduceEqDiff, Nat.reduceAdd, Nat.reduceLeDiff, hll, h, hb]; (first | done | rfl))
    | ((first | apply g_gT | apply g_gF); · intro hb hc; simp only [go_sem, Nat.reduceEqDiff, Nat.reduceAdd, Nat.reduceLeDiff, hll, h, hb, hc]; (first | done | rfl))
    | refine g_skT ?_ | refine g_skF ?_
    | ((first | apply g_goT | apply g_goF); · simp only [go_sem, Nat.reduceEqDiff, Nat.reduceAdd, Nat.reduceLeDiff, hll, h]; (first | done | rfl))
    | (refine w_condT ?_ ?_; · simp only [go_sem, Nat.reduceEqDiff, Nat.reduceAdd, Nat.reduceLeDiff, hll, h]; (first | done | rfl))
    | (refine w_condF ?_ ?_; · simp only [go_sem, Nat.reduceEqDiff, Nat.reduceAdd, Nat.reduceLeDiff, hll, h]; (first | done | rfl))
    | refine w_skip ?_ | refine w_exit ?_ | refine w_ret ?_
    | fail
    )
  have e : (decide ((l.length : Int) ≤ 64) && !!l.all mayD) = rightD l := by
    unfold rightD
    rw [Bool.not_not]
    congr 1
    rw [Bool.eq_iff_iff]; simp; omega
  exact ⟨by first | exact .inr rfl | exact .inr trivial | exact .inl rfl, by simp only [go_sem, Nat.reduceEqDiff, Nat.reduceAdd, Nat.reduceLeDiff, retOf, resOf, e]; first | done | rfl⟩
theorem a35 (D : Has ldd env) {a b : List (List UInt8)} (hn : a.length ≤ 9223372036854775807) : AV env 35 [.sl (txts a), .sl (txts b)] = some (.sc (.bool (decide (a = b)))) := by
  refine AV_wp (D (35, d35) (by simp [ldd])) rfl ?_
  have hla := txts_len a
  have hlb := txts_len b
  (repeat' first
    | refine w_seq ?_ | refine w_rg ?_ | refine wo_nil ?_ | refine g_skU ?_
    | ((first | apply s_plain | apply s_void | apply s_guard); · simp only [go_sem, Nat.reduceEqDiff, Nat.reduceAdd, Nat.reduceLeDiff, hla, hlb]; (first | done | rfl))
    | ((first | apply g_T | apply g_F); · intro hb; simp only [go_sem, Nat.reduceEqDiff, Nat.reduceAdd, Nat.reduceLeDiff, hla, hlb, hb]; (first | done | rfl))
    | ((first | apply g_gT | apply g_gF); · intro hb hc; simp only [go_sem, Nat.reduceEqDiff, Nat.reduceAdd, Nat.reduceLeDiff, hla, hlb, hb, hc]; (first | done | rfl))
    | refine g_skT ?_ | refine g_skF ?_
    | ((first | apply g_goT | apply g_goF); · simp only [go_sem, Nat.reduceEqDiff, Nat.reduceAdd, Nat.reduceLeDiff, hla, hlb]; (first | done | rfl))
    | fail
    )
  by_cases hl : a.length = b.length
  · have hc : ((a.length : Int) != (b.length : Int)) = false := by rw [hl]; simp
    (repeat' first
    | refine w_seq ?_ | refine w_rg ?_ | refine wo_nil ?_ | refine g_skU ?_
    | ((first | apply s_plain | apply s_void | apply s_guard); · simp only [go_sem, Nat.reduceEqDiff, Nat.reduceAdd, Nat.reduceLeDiff, hc]; (first | done | rfl))
    | ((first | apply g_T | apply g_F); · intro hb; simp only [go_sem, Nat.reduceEqDiff, Nat.reduceAdd, Nat.reduceLeDiff, hc, hb]; (first | done | rfl))
    | ((first | apply g_gT | apply g_gF); · intro hb hc; simp only [go_sem, Nat.reduceEqDiff, Nat.reduceAdd, Nat.reduceLeDiff, hc, hb, hc]; (first | done | rfl))
    | refine g_skT ?_ | refine g_skF ?_
    | ((first | apply g_goT | apply g_goF); · simp only [go_sem, Nat.reduceEqDiff, Nat.reduceAdd, Nat.reduceLeDiff, hc]; (first | done | rfl))
    | (refine w_condT ?_ ?_; · simp only [go_sem, Nat.reduceEqDiff, Nat.reduceAdd, Nat.reduceLeDiff, hc]; (first | done | rfl))
    | (refine w_condF ?_ ?_; · simp only [go_sem, Nat.reduceEqDiff, Nat.reduceAdd, Nat.reduceLeDiff, hc]; (first | done | rfl))
    | refine w_skip ?_ | refine w_exit ?_ | refine w_ret ?_
    | fail
    )
    (repeat' first
    | refine w_seq ?_ | refine w_rg ?_ | refine wo_nil ?_ | refine g_skU ?_
    | ((first | apply s_plain | apply s_void | apply s_guard); · simp only [go_sem, Nat.reduceEqDiff, Nat.reduceAdd, Nat.reduceLeDiff, hla]; (first | done | rfl))
    | ((first | apply g_T | apply g_F); · intro hb; simp only [go_sem, Nat.reduceEqDiff, Nat.reduceAdd, Nat.reduceLeDiff, hla, hb]; (first | done | rfl))
    | ((first | apply g_gT | apply g_gF); · intro hb hc; simp only [go_sem, Nat.reduceEqDiff, Nat.reduceAdd, Nat.reduceLeDiff, hla, hb, hc]; (first | done | rfl))
    | refine g_skT ?_ | refine g_skF ?_
    | ((first | apply g_goT | apply g_goF); · simp only [go_sem, Nat.reduceEqDiff, Nat.reduceAdd, Nat.reduceLeDiff, hla]; (first | done | rfl))
    | fail
    )
    refine w_block (w_rangeF a.length hn (fun i fr σ => ∀ j, j < i → a[j]? = b[j]?) ⟨by decide, rfl, rfl⟩ (fun _ _ _ _ h => ⟨h, h, h⟩) (fun j hj => by omega) (by simp only [go_sem, Nat.reduceEqDiff, Nat.reduceAdd, Nat.reduceLeDiff]; first | done | rfl) (by simp only [go_sem, Nat.reduceEqDiff, Nat.reduceAdd, Nat.reduceLeDiff, hla]; first | done | rfl) ?_ ?_)
    · rintro i fr1 σ1 hi h3 hti hfr
      have f0_0 := hfr 0 rfl; have f0_1 := hfr 1 rfl; have f0_12 := hfr 12 rfl; try (simp only [go_sem, Nat.reduceEqDiff, Nat.reduceAdd, Nat.reduceLeDiff] at f0_0); try (simp only [go_sem, Nat.reduceEqDiff, Nat.reduceAdd, Nat.reduceLeDiff] at f0_1); try (simp only [go_sem, Nat.reduceEqDiff, Nat.reduceAdd, Nat.reduceLeDiff] at f0_12)
      have hi2 : i < b.length := by omega
      have qa := List.getElem?_eq_getElem hi
      have qb := List.getElem?_eq_getElem hi2
      have hx := txts_at qa
      have hy := txts_at qb
      have e1 : (0 : Int) ≤ (i : Int) ∧ (i : Int) < (a.length : Int) := by omega
      have e2 : (0 : Int) ≤ (i : Int) ∧ (i : Int) < (b.length : Int) := by omega
      refine w_block ?_
      (repeat' first
    | refine w_seq ?_ | refine w_rg ?_ | refine wo_nil ?_ | refine g_skU ?_
    | ((first | apply s_plain | apply s_void | apply s_guard); · simp only [go_sem, Nat.reduceEqDiff, Nat.reduceAdd, Nat.reduceLeDiff, f0_0, f0_1, f0_12, hti, e1, e2, hla, hlb, Int.toNat_natCast, hx, hy, ba_data, ba_size, ba_toList, ba_extract, ba_append, List.toList_toArray]; (first | done | rfl))
    | ((first | apply g_T | apply g_F); · intro hb; simp only [go_sem, Nat.reduceEqDiff, Nat.reduceAdd, Nat.reduceLeDiff, f0_0, f0_1, f0_12, hti, e1, e2, hla, hlb, Int.toNat_natCast, hx, hy, ba_data, ba_size, ba_toList, ba_extract, ba_append, List.toList_toArray, hb]; (first | done | rfl))
    | ((first | apply g_gT | apply g_gF); · intro hb hc; simp only [go_sem, Nat.reduceEqDiff, Nat.reduceAdd, Nat.reduceLeDiff, f0_0, f0_1, f0_12, hti, e1, e2, hla, hlb, Int.toNat_natCast, hx, hy, ba_data, ba_size, ba_toList, ba_extract, ba_append, List.toList_toArray, hb, hc]; (first | done | rfl))
    | refine g_skT ?_ | refine g_skF ?_
    | ((first | apply g_goT | apply g_goF); · simp only [go_sem, Nat.reduceEqDiff, Nat.reduceAdd, Nat.reduceLeDiff, f0_0, f0_1, f0_12, hti, e1, e2, hla, hlb, Int.toNat_natCast, hx, hy, ba_data, ba_size, ba_toList, ba_extract, ba_append, List.toList_toArray]; (first | done | rfl))
    | fail
    )
      by_cases he : a[i] = b[i]
      · have hb : (!(a[i] == b[i])) = false := by simp [he]
        (repeat' first
    | refine w_seq ?_ | refine w_rg ?_ | refine wo_nil ?_ | refine g_skU ?_
    | ((first | apply s_plain | apply s_void | apply s_guard); · simp only [go_sem, Nat.reduceEqDiff, Nat.reduceAdd, Nat.reduceLeDiff, hb]; (first | done | rfl))
    | ((first | apply g_T | apply g_F); · intro hb; simp only [go_sem, Nat.reduceEqDiff, Nat.reduceAdd, Nat.reduceLeDiff, hb, hb]; (first | done | rfl))
    | ((first | apply g_gT | apply g_gF); · intro hb hc; simp only [go_sem, Nat.reduceEqDiff, Nat.reduceAdd, Nat.reduceLeDiff, hb, hb, hc]; (first | done | rfl))
    | refine g_skT ?_ | refine g_skF ?_
    | ((first | apply g_goT | apply g_goF); · simp only [go_sem, Nat.reduceEqDiff, Nat.reduceAdd, Nat.reduceLeDiff, hb]; (first | done | rfl))
    | (refine w_condT ?_ ?_; · simp only [go_sem, Nat.reduceEqDiff, Nat.reduceAdd, Nat.reduceLeDiff, hb]; (first | done | rfl))
    | (refine w_condF ?_ ?_; · simp only [go_sem, Nat.reduceEqDiff, Nat.reduceAdd, Nat.reduceLeDiff, hb]; (first | done | rfl))
    | refine w_skip ?_ | refine w_exit ?_ | refine w_ret ?_
    | fail
    )
        intro j hj
        by_cases hji : j = i
        · rw [hji, qa, qb, he]
        · exact h3 j (by omega)
      · have hb : (!(a[i] == b[i])) = true := by simp [he]
        have hne : a ≠ b := fun h => he (by subst h; rfl)
        (repeat' first
    | refine w_seq ?_ | refine w_rg ?_ | refine wo_nil ?_ | refine g_skU ?_
    | ((first | apply s_plain | apply s_void | apply s_guard); · simp only [go_sem, Nat.reduceEqDiff, Nat.reduceAdd, Nat.reduceLeDiff, hb]; (first | done | rfl))
    | ((first | apply g_T | apply g_F); · intro hb; simp only [go_sem, Nat.reduceEqDiff, Nat.reduceAdd, Nat.reduceLeDiff, hb, hb]; (first | done | rfl))
    | ((first | apply g_gT | apply g_gF); · intro hb hc; simp only [go_sem, Nat.reduceEqDiff, Nat.reduceAdd, Nat.reduceLeDiff, hb, hb, hc]; (first | done | rfl))
    | refine g_skT ?_ | refine g_skF ?_
    | ((first | apply g_goT | apply g_goF); · simp only [go_sem, Nat.reduceEqDiff, Nat.reduceAdd, Nat.reduceLeDiff, hb]; (first | done | rfl))
    | (refine w_condT ?_ ?_; · simp only [go_sem, Nat.reduceEqDiff, Nat.reduceAdd, Nat.reduceLeDiff, hb]; (first | done | rfl))
    | (refine w_condF ?_ ?_; · simp only [go_sem, Nat.reduceEqDiff, Nat.reduceAdd, Nat.reduceLeDiff, hb]; (first | done | rfl))
    | refine w_skip ?_ | refine w_exit ?_ | refine w_ret ?_
    | fail
    )
        exact ⟨by first | exact .inr rfl | exact .inr trivial | exact .inl rfl, by simp only [go_sem, Nat.reduceEqDiff, Nat.reduceAdd, Nat.reduceLeDiff, retOf, resOf, decide_eq_false hne]; first | done | rfl⟩
    · rintro fr1 σ1 h3 hfr
      try simp only [if_true]
      have heq : a = b := List.ext_getElem? fun i => by
        by_cases hi : i < a.length
        · exact h3 i hi
        · rw [List.getElem?_eq_none (by omega), List.getElem?_eq_none (by omega)]
      (repeat' first
    | refine w_seq ?_ | refine w_rg ?_ | refine wo_nil ?_ | refine g_skU ?_
    | ((first | apply s_plain | apply s_void | apply s_guard); · simp only [go_sem, Nat.reduceEqDiff, Nat.reduceAdd, Nat.reduceLeDiff]; (first | done | rfl))
    | ((first | apply g_T | apply g_F); · intro hb; simp only [go_sem, Nat.reduceEqDiff, Nat.reduceAdd, Nat.reduceLeDiff, hb]; (first | done | rfl))
    | ((first | apply g_gT | apply g_gF); · intro hb hc; simp only [go_sem, Nat.reduceEqDiff, Nat.reduceAdd, Nat.reduceLeDiff, hb, hc]; (first | done | rfl))
    | refine g_skT ?_ | refine g_skF ?_
    | ((first | apply g_goT | apply g_goF); · simp only [go_sem, Nat.reduceEqDiff, Nat.reduceAdd, Nat.reduceLeDiff]; (first | done | rfl))
    | (refine w_condT ?_ ?_; · simp only [go_sem, Nat.reduceEqDiff, Nat.reduceAdd, Nat.reduceLeDiff]; (first | done | rfl))
    | (refine w_condF ?_ ?_; · simp only [go_sem, Nat.reduceEqDiff, Nat.reduceAdd, Nat.reduceLeDiff]; (first | done | rfl))
    | refine w_skip ?_ | refine w_exit ?_ | refine w_ret ?_
    | fail
    )
      exact ⟨by first | exact .inr rfl | exact .inr trivial | exact .inl rfl, by simp only [go_sem, Nat.reduceEqDiff, Nat.reduceAdd, Nat.reduceLeDiff, retOf, resOf, decide_eq_true heq]; first | done | rfl⟩
  · have hc : ((a.length : Int) != (b.length : Int)) = true := by simp; omega
    have hne : a ≠ b := fun h => hl (by rw [h])
    (repeat' first
    | refine w_seq ?_ | refine w_rg ?_ | refine wo_nil ?_ | refine g_skU ?_
    | ((first | apply s_plain | apply s_void | apply s_guard); · simp only [go_sem, Nat.reduceEqDiff, Nat.reduceAdd, Nat.reduceLeDiff, hc]; (first | done | rfl))
    | ((first | apply g_T | apply g_F); · intro hb; simp only [go_sem, Nat.reduceEqDiff, Nat.reduceAdd, Nat.reduceLeDiff, hc, hb]; (first | done | rfl))
    | ((first | apply g_gT | apply g_gF); · intro hb hc; simp only [go_sem, Nat.reduceEqDiff, Nat.reduceAdd, Nat.reduceLeDiff, hc, hb, hc]; (first | done | rfl))
    | refine g_skT ?_ | refine g_skF ?_
    | ((first | apply g_goT | apply g_goF); · simp only [go_sem, Nat.reduceEqDiff, Nat.reduceAdd, Nat.reduceLeDiff, hc]; (first | done | rfl))
    | (refine w_condT ?_ ?_; · simp only [go_sem, Nat.reduceEqDiff, Nat.reduceAdd, Nat.reduceLeDiff, hc]; (first | done | rfl))
    | (refine w_condF ?_ ?_; · simp only [go_sem, Nat.reduceEqDiff, Nat.reduceAdd, Nat.reduceLeDiff, hc]; (first | done | rfl))
    | refine w_skip ?_ | refine w_exit ?_ | refine w_ret ?_
    | fail
    )
    exact ⟨by first | exact .inr rfl | exact .inr trivial | exact .inl rfl, by simp only [go_sem, Nat.reduceEqDiff, Nat.reduceAdd, Nat.reduceLeDiff, retOf, resOf, decide_eq_false hne]; first | done | rfl⟩
theorem a34 (D : Has ldd env) {a b : Df} (ha : a.Sm) : AV env 34 [df a, df b] = some (.sc (.bool (decide (a = b)))) := by
  have h1 := a35 D (a := a.ks) (b := b.ks) (by have := ha.ks.1; omega)
  have h2 := a35 D (a := a.vs) (b := b.vs) (by have := ha.vs.1; omega)
  refine AV_wp (D (34, d34) (by simp [ldd])) rfl ?_
  unfold df
  (repeat' first
    | refine w_seq ?_ | refine w_rg ?_ | refine wo_nil ?_ | refine g_skU ?_
    | ((first | apply s_plain | apply s_void | apply s_guard); · simp only [go_sem, Nat.reduceEqDiff, Nat.reduceAdd, Nat.reduceLeDiff, h1, h2, ba_data, ba_size, ba_toList, ba_extract, ba_append, List.toList_toArray]; (first | done | rfl))
    | ((first | apply g_T | apply g_F); · intro hb; simp only [go_sem, Nat.reduceEqDiff, Nat.reduceAdd, Nat.reduceLeDiff, h1, h2, ba_data, ba_size, ba_toList, ba_extract, ba_append, List.toList_toArray, hb]; (first | done | rfl))
    | ((first | apply g_gT | apply g_gF); · intro hb hc; simp only [go_sem, Nat.reduceEqDiff, Nat.reduceAdd, Nat.reduceLeDiff, h1, h2, ba_data, ba_size, ba_toList, ba_extract, ba_append, List.toList_toArray, hb, hc]; (first | done | rfl))
    | refine g_skT ?_ | refine g_skF ?_
    | ((first | apply g_goT | apply g_goF); · simp only [go_sem, Nat.reduceEqDiff, Nat.reduceAdd, Nat.reduceLeDiff, h1, h2, ba_data, ba_size, ba_toList, ba_extract, ba_append, List.toList_toArray]; (first | done | rfl))
    | (refine w_condT ?_ ?_; · simp only [go_sem, Nat.reduceEqDiff, Nat.reduceAdd, Nat.reduceLeDiff, h1, h2, ba_data, ba_size, ba_toList, ba_extract, ba_append, List.toList_toArray]; (first | done | rfl))
    | (refine w_condF ?_ ?_; · simp only [go_sem, Nat.reduceEqDiff, Nat.reduceAdd, Nat.reduceLeDiff, h1, h2, ba_data, ba_size, ba_toList, ba_extract, ba_append, List.toList_toArray]; (first | done | rfl))
    | refine w_skip ?_ | refine w_exit ?_ | refine w_ret ?_
    | fail
    )
  have e : ((a.ty == b.ty) && decide (a.ks = b.ks) && decide (a.vs = b.vs)) = decide (a = b) := by
    obtain ⟨t, k, v⟩ := a
    obtain ⟨t2, k2, v2⟩ := b
    rw [Bool.eq_iff_iff]
    simp [and_assoc]
  exact ⟨by first | exact .inr rfl | exact .inr trivial | exact .inl rfl, by simp only [go_sem, Nat.reduceEqDiff, Nat.reduceAdd, Nat.reduceLeDiff, retOf, resOf, e]; first | done | rfl⟩
theorem all_eq {α : Type} [DecidableEq α] [Inhabited α] {a b : List α} {q : Nat → Bool} (h : ∀ i x y, a[i]? = some x → b[i]? = some y → q i = decide (x = y)) : (decide (a.length = b.length) && (List.range a.length).all q) = decide (a = b) := by
  rw [Bool.eq_iff_iff]
  simp only [Bool.and_eq_true, decide_eq_true_eq, List.all_eq_true, List.mem_range]
  constructor
  · rintro ⟨h1, h2⟩
    refine List.ext_getElem h1 fun i hi hi2 => ?_
    have := h2 i hi
    rw [h i _ _ (List.getElem?_eq_getElem hi) (List.getElem?_eq_getElem hi2)] at this
    simpa using this
  · rintro rfl
    refine ⟨rfl, fun i hi => ?_⟩
    rw [h i _ _ (List.getElem?_eq_getElem hi) (List.getElem?_eq_getElem hi)]
    simp
instance : Inhabited Df := ⟨⟨[], [], []⟩⟩
theorem a11 (D : Has ldd env) {a b : List Df} (ha : Sms a) : AV env 11 [.sl (dfs a), .sl (dfs b)] = some (.sc (.bool (decide (a = b)))) := by
  have h := eqF_g (env := env) (k0 := 33) (D (33, dEqF 3 #[.string ⟨#[]⟩, .slice none 0 0, .slice none 0 0]) (by simp [ldd])) rfl (xs := dfs a) (ys := dfs b) (k := 34) (q := fun i => decide (a[i]? = b[i]?)) (by rw [dfs_len]; have := ha.1; omega) (dfs_aggs a) (dfs_aggs b)
    (fun i e h σ => by
      rcases h with h | h <;>
      · simp only [dfs, List.getElem?_map] at h
        obtain ⟨s, _, rfl⟩ := Option.map_eq_some_iff.1 h
        rfl)
    (fun i x y hx hy => by
      simp only [dfs, List.getElem?_map] at hx hy
      obtain ⟨s, h1, rfl⟩ := Option.map_eq_some_iff.1 hx
      obtain ⟨t, h2, rfl⟩ := Option.map_eq_some_iff.1 hy
      rw [a34 D (ha.2 s (List.mem_of_getElem? h1)), h1, h2]
      simp)
  rw [dfs_len, dfs_len, all_eq (fun i x y h1 h2 => by rw [h1, h2]; simp)] at h
  refine AV_wp (D (11, d11) (by simp [ldd])) rfl ?_
  (repeat' first
    | refine w_seq ?_ | refine w_rg ?_ | refine wo_nil ?_ | refine g_skU ?_
    | ((first | apply s_plain | apply s_void | apply s_guard); · simp only [go_sem, Nat.reduceEqDiff, Nat.reduceAdd, Nat.reduceLeDiff, h]; (first | done | rfl))
    | ((first | apply g_T | apply g_F); · intro hb; simp only [go_sem, Nat.reduceEqDiff, Nat.reduceAdd, Nat.reduceLeDiff, h, hb]; (first | done | rfl))
    | ((first | apply g_gT | apply g_gF); · intro hb hc; simp only [go_sem, Nat.reduceEqDiff, Nat.reduceAdd, Nat.reduceLeDiff, h, hb, hc]; (first | done | rfl))
    | refine g_skT ?_ | refine g_skF ?_
    | ((first | apply g_goT | apply g_goF); · simp only [go_sem, Nat.reduceEqDiff, Nat.reduceAdd, Nat.reduceLeDiff, h]; (first | done | rfl))
    | (refine w_condT ?_ ?_; · simp only [go_sem, Nat.reduceEqDiff, Nat.reduceAdd, Nat.reduceLeDiff, h]; (first | done | rfl))
    | (refine w_condF ?_ ?_; · simp only [go_sem, Nat.reduceEqDiff, Nat.reduceAdd, Nat.reduceLeDiff, h]; (first | done | rfl))
    | refine w_skip ?_ | refine w_exit ?_ | refine w_ret ?_
    | fail
    )
  exact ⟨by first | exact .inr rfl | exact .inr trivial | exact .inl rfl, by simp only [go_sem, Nat.reduceEqDiff, Nat.reduceAdd, Nat.reduceLeDiff, retOf, resOf]; first | done | rfl⟩
/-- A key's value. -/
def getD (d : Df) (k : List UInt8) : List UInt8 × Int := if idxT d.ks k < 0 ∨ idxT d.ks k ≥ d.vs.length then ([], 9) else (d.vs.getD (idxT d.ks k).toNat [], 0)
theorem a14 (B : Has ldb env) (E : Has lde env) {d : Df} (h : d.Sm) (k : List UInt8) : AV env 14 [df d, txt k] = some (.tu [txt (getD d k).1, .sc (.int .i64 (getD d k).2)]) := by
  have h37 := a37t B (l := d.ks) (by have := h.ks.1; omega) k
  have hlv := txts_len d.vs
  refine AV_wp (E (14, d14) (by simp [lde])) rfl ?_
  unfold df
  (repeat' first
    | refine w_seq ?_ | refine w_rg ?_ | refine wo_nil ?_ | refine g_skU ?_
    | ((first | apply s_plain | apply s_void | apply s_guard); · simp only [go_sem, Nat.reduceEqDiff, Nat.reduceAdd, Nat.reduceLeDiff, h37, hlv]; (first | done | rfl))
    | ((first | apply g_T | apply g_F); · intro hb; simp only [go_sem, Nat.reduceEqDiff, Nat.reduceAdd, Nat.reduceLeDiff, h37, hlv, hb]; (first | done | rfl))
    | ((first | apply g_gT | apply g_gF); · intro hb hc; simp only [go_sem, Nat.reduceEqDiff, Nat.reduceAdd, Nat.reduceLeDiff, h37, hlv, hb, hc]; (first | done | rfl))
    | refine g_skT ?_ | refine g_skF ?_
    | ((first | apply g_goT | apply g_goF); · simp only [go_sem, Nat.reduceEqDiff, Nat.reduceAdd, Nat.reduceLeDiff, h37, hlv]; (first | done | rfl))
    | fail
    )
  by_cases hc : idxT d.ks k < 0 ∨ idxT d.ks k ≥ d.vs.length
  · have hb : (decide (idxT d.ks k < 0) || decide (idxT d.ks k ≥ (d.vs.length : Int))) = true := by simpa using hc
    have hg : getD d k = ([], 9) := by unfold getD; rw [if_pos hc]
    (repeat' first
    | refine w_seq ?_ | refine w_rg ?_ | refine wo_nil ?_ | refine g_skU ?_
    | ((first | apply s_plain | apply s_void | apply s_guard); · simp only [go_sem, Nat.reduceEqDiff, Nat.reduceAdd, Nat.reduceLeDiff, hb]; (first | done | rfl))
    | ((first | apply g_T | apply g_F); · intro hb; simp only [go_sem, Nat.reduceEqDiff, Nat.reduceAdd, Nat.reduceLeDiff, hb, hb]; (first | done | rfl))
    | ((first | apply g_gT | apply g_gF); · intro hb hc; simp only [go_sem, Nat.reduceEqDiff, Nat.reduceAdd, Nat.reduceLeDiff, hb, hb, hc]; (first | done | rfl))
    | refine g_skT ?_ | refine g_skF ?_
    | ((first | apply g_goT | apply g_goF); · simp only [go_sem, Nat.reduceEqDiff, Nat.reduceAdd, Nat.reduceLeDiff, hb]; (first | done | rfl))
    | (refine w_condT ?_ ?_; · simp only [go_sem, Nat.reduceEqDiff, Nat.reduceAdd, Nat.reduceLeDiff, hb]; (first | done | rfl))
    | (refine w_condF ?_ ?_; · simp only [go_sem, Nat.reduceEqDiff, Nat.reduceAdd, Nat.reduceLeDiff, hb]; (first | done | rfl))
    | refine w_skip ?_ | refine w_exit ?_ | refine w_ret ?_
    | fail
    )
    exact ⟨by first | exact .inr rfl | exact .inr trivial | exact .inl rfl, by simp only [go_sem, Nat.reduceEqDiff, Nat.reduceAdd, Nat.reduceLeDiff, retOf, resOf, hg]; first | done | rfl⟩
  · have hb : (decide (idxT d.ks k < 0) || decide (idxT d.ks k ≥ (d.vs.length : Int))) = false := by simpa using hc
    have hg : getD d k = (d.vs.getD (idxT d.ks k).toNat [], 0) := by unfold getD; rw [if_neg hc]
    have e1 : (0 : Int) ≤ idxT d.ks k ∧ idxT d.ks k < (d.vs.length : Int) := by omega
    have hi : (idxT d.ks k).toNat < d.vs.length := by omega
    have hx := txts_at (List.getElem?_eq_getElem hi)
    have hv : d.vs.getD (idxT d.ks k).toNat [] = d.vs[(idxT d.ks k).toNat] := by rw [List.getD_eq_getElem?_getD, List.getElem?_eq_getElem hi]; rfl
    (repeat' first
    | refine w_seq ?_ | refine w_rg ?_ | refine wo_nil ?_ | refine g_skU ?_
    | ((first | apply s_plain | apply s_void | apply s_guard); · simp only [go_sem, Nat.reduceEqDiff, Nat.reduceAdd, Nat.reduceLeDiff, hb, e1, hlv, hx]; (first | done | rfl))
    | ((first | apply g_T | apply g_F); · intro hb; simp only [go_sem, Nat.reduceEqDiff, Nat.reduceAdd, Nat.reduceLeDiff, hb, e1, hlv, hx, hb]; (first | done | rfl))
    | ((first | apply g_gT | apply g_gF); · intro hb hc; simp only [go_sem, Nat.reduceEqDiff, Nat.reduceAdd, Nat.reduceLeDiff, hb, e1, hlv, hx, hb, hc]; (first | done | rfl))
    | refine g_skT ?_ | refine g_skF ?_
    | ((first | apply g_goT | apply g_goF); · simp only [go_sem, Nat.reduceEqDiff, Nat.reduceAdd, Nat.reduceLeDiff, hb, e1, hlv, hx]; (first | done | rfl))
    | (refine w_condT ?_ ?_; · simp only [go_sem, Nat.reduceEqDiff, Nat.reduceAdd, Nat.reduceLeDiff, hb, e1, hlv, hx]; (first | done | rfl))
    | (refine w_condF ?_ ?_; · simp only [go_sem, Nat.reduceEqDiff, Nat.reduceAdd, Nat.reduceLeDiff, hb, e1, hlv, hx]; (first | done | rfl))
    | refine w_skip ?_ | refine w_exit ?_ | refine w_ret ?_
    | fail
    )
    exact ⟨by first | exact .inr rfl | exact .inr trivial | exact .inl rfl, by simp only [go_sem, Nat.reduceEqDiff, Nat.reduceAdd, Nat.reduceLeDiff, retOf, resOf, hg, hv]; first | done | rfl⟩
end
end Go.Proofs.YtdlfomiclkpibaaDoorPv
namespace Go.Proofs.YtdlfomiclkpibaaDoorPv
open Go
set_option linter.unusedSimpArgs false
set_option linter.unusedVariables false
set_option maxHeartbeats 4000000
attribute [local go_sem ↓] e_mv e_pick e_bin e_eqs e_beq e_un e_cvi e_str e_s2b e_b2s e_box e_build e_bsl e_ld e_st e_nck e_mkf e_slcS e_slcL e_fa e_fld e_ia e_iaa e_ix e_ixa e_ext e_lenS e_lenL e_mnmx e_app e_appb e_bbx e_msl e_clr e_call e_callv pa_t pa_c pa_f slcSP_str hiOf_some hiOf_none loOf_some loOf_none set_eq set_ne
attribute [local go_sem] pv pv1 simple frOf_0 frOf_1 frOf_2 frOf_3 frOf_4 frOf_5 ne_eq not_false_eq_true if_true Bool.false_eq_true if_false pbin punary Option.map_some Option.bind_some pick_and pick_or opt_true Bool.true_and Bool.and_self Bool.and_true Bool.true_or Bool.false_or Bool.not_true Bool.not_false callE pcall_eq List.map_cons List.map_nil List.append_nil List.nil_append List.cons_append mapM_cons' mapM_nil' dep_eq fz_sc fz_sl fz_em fz_fn fz_fp fz_agg fz_tu fz_bx fz_ob Nat.lt_irrefl Nat.zero_lt_one Nat.lt_add_one flat clL cl Bool.or_true okc_sc okc_em okc_sl okc_ob okc_bx okc_fp okc_fn okc_agg okc_ifc cells_agg cells_sc cells_sl cells_em cells_ob cells_fn cells_bx cells_fp List.length_cons List.length_nil Nat.zero_add and_self true_and and_true new_m new_c put_m put_c nil_m nil_c deref List.getElem?_cons_zero List.getElem?_cons_succ List.drop_zero List.drop_succ_cons List.take_succ_cons List.take_zero Nat.le_refl false_and and_false decide_true decide_false lenP_em lenP_nil lenP_sl lenP_ob Int.ofNat_zero
set_option maxRecDepth 8000
/-- transhipment/transhipmentref06.has -/
def d31 : Def := (.code 2 [.tmp 4] (.seq (.rg false [⟨.some 4, .none, .mv (.c (.bool false))⟩]) (.seq (.seq (.rg false [⟨.some 7, .none, .mv (.t 0)⟩, ⟨.some 8, .none, .lenL (.t 7)⟩, ⟨.some 9, .none, .mv (.c (.int .i64 0))⟩]) (.block 0 (.loop (.seq (.rg false [⟨.some 10, .none, .bin .lss (.t 9) (.t 8)⟩]) (.seq (.cond (.t 10) .skip (.exit 0)) (.seq (.block 1 (.seq (.rg false [⟨.some 11, .none, .ia 1 (.t 7) (.t 9)⟩, ⟨.some 12, .none, .ld .none (.t 11)⟩, ⟨.some 6, .none, .mv (.t 12)⟩]) (.seq (.rg false [⟨.some 13, .none, .mv (.t 6)⟩, ⟨.some 14, .none, .mv (.t 1)⟩, ⟨.some 15, .none, .bin .eql (.t 13) (.t 14)⟩]) (.cond (.t 15) (.seq (.rg false [⟨.some 4, .none, .mv (.c (.bool true))⟩]) .ret) .skip)))) (.rg false [⟨.some 16, .none, .bin .add (.t 9) (.c (.int .i64 1))⟩, ⟨.some 9, .none, .mv (.t 16)⟩]))))))) (.seq (.rg false [⟨.some 4, .none, .mv (.c (.bool false))⟩]) .ret))))
/-- transhipment/transhipmentref06.Value -/
def d32 : Def := (.code 1 [.tmp 2] (.seq (.rg false [⟨.some 2, .none, .mv (.c (.bool false))⟩]) (.seq (.seq (.rg false [⟨.some 3, .none, .mv (.c (.int .i64 0))⟩]) (.block 0 (.loop (.seq (.seq (.rg false [⟨.some 4, .none, .mv (.t 3)⟩, ⟨.some 5, .none, .mv (.t 0)⟩, ⟨.some 6, .none, .lenS (.t 5)⟩, ⟨.some 7, .none, .bin .lss (.t 4) (.t 6)⟩]) (.cond (.t 7) .skip (.exit 0))) (.seq (.block 1 (.seq (.rg false [⟨.some 10, .none, .mv (.t 0)⟩, ⟨.some 11, .none, .mv (.t 3)⟩, ⟨.some 12, .none, .ix (.t 10) (.t 11)⟩, ⟨.some 13, .none, .bin .lss (.t 12) (.c (.int .u8 32))⟩, ⟨.some 14, .none, .mv (.t 13)⟩, ⟨.some 15, .some (14, false), .mv (.t 0)⟩, ⟨.some 16, .some (14, false), .mv (.t 3)⟩, ⟨.some 17, .some (14, false), .ix (.t 15) (.t 16)⟩, ⟨.some 18, .some (14, false), .bin .gtr (.t 17) (.c (.int .u8 126))⟩, ⟨.some 19, .none, .pick (.t 14) (.c (.bool true)) (.t 18)⟩, ⟨.some 20, .none, .mv (.t 19)⟩, ⟨.some 21, .some (20, false), .mv (.t 0)⟩, ⟨.some 22, .some (20, false), .mv (.t 3)⟩, ⟨.some 23, .some (20, false), .ix (.t 21) (.t 22)⟩, ⟨.some 24, .some (20, false), .bin .eql (.t 23) (.c (.int .u8 59))⟩, ⟨.some 25, .none, .pick (.t 20) (.c (.bool true)) (.t 24)⟩]) (.cond (.t 25) (.seq (.rg false [⟨.some 2, .none, .mv (.c (.bool false))⟩]) .ret) .skip))) (.rg false [⟨.some 8, .none, .mv (.t 3)⟩, ⟨.some 9, .none, .bin .add (.t 8) (.c (.int .i64 1))⟩, ⟨.some 3, .none, .mv (.t 9)⟩])))))) (.seq (.rg false [⟨.some 26, .none, .mv (.t 0)⟩, ⟨.some 27, .none, .lenS (.t 26)⟩, ⟨.some 28, .none, .bin .gtr (.t 27) (.c (.int .i64 0))⟩, ⟨.some 29, .none, .mv (.t 28)⟩, ⟨.some 30, .some (29, true), .mv (.t 0)⟩, ⟨.some 31, .some (29, true), .lenS (.t 30)⟩, ⟨.some 32, .some (29, true), .bin .leq (.t 31) (.c (.int .i64 200))⟩, ⟨.some 33, .none, .pick (.t 29) (.t 32) (.c (.bool false))⟩, ⟨.some 34, .none, .mv (.t 33)⟩, ⟨.some 35, .some (34, true), .mv (.t 0)⟩, ⟨.some 36, .some (34, true), .ix (.t 35) (.c (.int .i64 0))⟩, ⟨.some 37, .some (34, true), .bin .neq (.t 36) (.c (.int .u8 32))⟩, ⟨.some 38, .none, .pick (.t 34) (.t 37) (.c (.bool false))⟩, ⟨.some 39, .none, .mv (.t 38)⟩, ⟨.some 40, .some (39, true), .mv (.t 0)⟩, ⟨.some 41, .some (39, true), .mv (.t 0)⟩, ⟨.some 42, .some (39, true), .lenS (.t 41)⟩, ⟨.some 43, .some (39, true), .bin .sub (.t 42) (.c (.int .i64 1))⟩, ⟨.some 44, .some (39, true), .ix (.t 40) (.t 43)⟩, ⟨.some 45, .some (39, true), .bin .neq (.t 44) (.c (.int .u8 32))⟩, ⟨.some 46, .none, .pick (.t 39) (.t 45) (.c (.bool false))⟩, ⟨.some 2, .none, .mv (.t 46)⟩]) .ret))))
def ldf : List (Nat × Def) := [(31, d31), (32, d32)]
section
variable {env : Nat → Option Def} {fr : Fr} {σ σ' σ'' : St} {K : Fr → St → Prop} {Q : X → Fr → St → Prop} {p : PV} {bs : List UInt8}
theorem a31 (F : Has ldf env) {l : List (List UInt8)} (hn : l.length ≤ 9223372036854775807) (s : List UInt8) : AV env 31 [.sl (txts l), txt s] = some (.sc (.bool (l.contains s))) := by
  refine AV_wp (F (31, d31) (by simp [ldf])) rfl ?_
  have hll := txts_len l
  (repeat' first
    | refine w_seq ?_ | refine w_rg ?_ | refine wo_nil ?_ | refine g_skU ?_
    | ((first | apply s_plain | apply s_void | apply s_guard); · simp only [go_sem, Nat.reduceEqDiff, Nat.reduceAdd, Nat.reduceLeDiff, hll]; (first | done | rfl))
    | ((first | apply g_T | apply g_F); · intro hb; simp only [go_sem, Nat.reduceEqDiff, Nat.reduceAdd, Nat.reduceLeDiff, hll, hb]; (first | done | rfl))
    | ((first | apply g_gT | apply g_gF); · intro hb hc; simp only [go_sem, Nat.reduceEqDiff, Nat.reduceAdd, Nat.reduceLeDiff, hll, hb, hc]; (first | done | rfl))
    | refine g_skT ?_ | refine g_skF ?_
    | ((first | apply g_goT | apply g_goF); · simp only [go_sem, Nat.reduceEqDiff, Nat.reduceAdd, Nat.reduceLeDiff, hll]; (first | done | rfl))
    | fail
    )
  refine w_block (w_rangeF l.length hn (fun i fr σ => ∀ j, j < i → (l[j]? == some s) = false) ⟨by decide, rfl, rfl⟩ (fun _ _ _ _ h => ⟨h, h, h⟩) (fun j hj => by omega) (by simp only [go_sem, Nat.reduceEqDiff, Nat.reduceAdd, Nat.reduceLeDiff]; first | done | rfl) (by simp only [go_sem, Nat.reduceEqDiff, Nat.reduceAdd, Nat.reduceLeDiff, hll]; first | done | rfl) ?_ ?_)
  · rintro i fr1 σ1 hi h3 hti hfr
    have f0_1 := hfr 1 rfl; have f0_7 := hfr 7 rfl; have f0_8 := hfr 8 rfl; try (simp only [go_sem, Nat.reduceEqDiff, Nat.reduceAdd, Nat.reduceLeDiff] at f0_1); try (simp only [go_sem, Nat.reduceEqDiff, Nat.reduceAdd, Nat.reduceLeDiff] at f0_7); try (simp only [go_sem, Nat.reduceEqDiff, Nat.reduceAdd, Nat.reduceLeDiff] at f0_8)
    have hq := List.getElem?_eq_getElem hi
    have hx := txts_at hq
    have e1 : (0 : Int) ≤ (i : Int) ∧ (i : Int) < (l.length : Int) := by omega
    refine w_block ?_
    (repeat' first
    | refine w_seq ?_ | refine w_rg ?_ | refine wo_nil ?_ | refine g_skU ?_
    | ((first | apply s_plain | apply s_void | apply s_guard); · simp only [go_sem, Nat.reduceEqDiff, Nat.reduceAdd, Nat.reduceLeDiff, f0_1, f0_7, f0_8, hti, e1, hll, Int.toNat_natCast, hx, ba_data, ba_size, ba_toList, ba_extract, ba_append, List.toList_toArray]; (first | done | rfl))
    | ((first | apply g_T | apply g_F); · intro hb; simp only [go_sem, Nat.reduceEqDiff, Nat.reduceAdd, Nat.reduceLeDiff, f0_1, f0_7, f0_8, hti, e1, hll, Int.toNat_natCast, hx, ba_data, ba_size, ba_toList, ba_extract, ba_append, List.toList_toArray, hb]; (first | done | rfl))
    | ((first | apply g_gT | apply g_gF); · intro hb hc; simp only [go_sem, Nat.reduceEqDiff, Nat.reduceAdd, Nat.reduceLeDiff, f0_1, f0_7, f0_8, hti, e1, hll, Int.toNat_natCast, hx, ba_data, ba_size, ba_toList, ba_extract, ba_append, List.toList_toArray, hb, hc]; (first | done | rfl))
    | refine g_skT ?_ | refine g_skF ?_
    | ((first | apply g_goT | apply g_goF); · simp only [go_sem, Nat.reduceEqDiff, Nat.reduceAdd, Nat.reduceLeDiff, f0_1, f0_7, f0_8, hti, e1, hll, Int.toNat_natCast, hx, ba_data, ba_size, ba_toList, ba_extract, ba_append, List.toList_toArray]; (first | done | rfl))
    | fail
    )
    have hb : (l[i] == s) = (l[i]? == some s) := by rw [hq, Bool.eq_iff_iff, beq_iff_eq, beq_iff_eq, Option.some.injEq]
    rw [hb]
    cases hpi : (l[i]? == some s) with
    | true =>
      (repeat' first
    | refine w_seq ?_ | refine w_rg ?_ | refine wo_nil ?_ | refine g_skU ?_
    | ((first | apply s_plain | apply s_void | apply s_guard); · simp only [go_sem, Nat.reduceEqDiff, Nat.reduceAdd, Nat.reduceLeDiff]; (first | done | rfl))
    | ((first | apply g_T | apply g_F); · intro hb; simp only [go_sem, Nat.reduceEqDiff, Nat.reduceAdd, Nat.reduceLeDiff, hb]; (first | done | rfl))
    | ((first | apply g_gT | apply g_gF); · intro hb hc; simp only [go_sem, Nat.reduceEqDiff, Nat.reduceAdd, Nat.reduceLeDiff, hb, hc]; (first | done | rfl))
    | refine g_skT ?_ | refine g_skF ?_
    | ((first | apply g_goT | apply g_goF); · simp only [go_sem, Nat.reduceEqDiff, Nat.reduceAdd, Nat.reduceLeDiff]; (first | done | rfl))
    | (refine w_condT ?_ ?_; · simp only [go_sem, Nat.reduceEqDiff, Nat.reduceAdd, Nat.reduceLeDiff]; (first | done | rfl))
    | (refine w_condF ?_ ?_; · simp only [go_sem, Nat.reduceEqDiff, Nat.reduceAdd, Nat.reduceLeDiff]; (first | done | rfl))
    | refine w_skip ?_ | refine w_exit ?_ | refine w_ret ?_
    | fail
    )
      have hf : l.contains s = true := by rw [← idxT_has]; unfold idxT; rw [found_hit (p := fun i => l[i]? == some s) hi h3 hpi]; simp
      exact ⟨by first | exact .inr rfl | exact .inr trivial | exact .inl rfl, by simp only [go_sem, Nat.reduceEqDiff, Nat.reduceAdd, Nat.reduceLeDiff, retOf, resOf, hf]; first | done | rfl⟩
    | false =>
      (repeat' first
    | refine w_seq ?_ | refine w_rg ?_ | refine wo_nil ?_ | refine g_skU ?_
    | ((first | apply s_plain | apply s_void | apply s_guard); · simp only [go_sem, Nat.reduceEqDiff, Nat.reduceAdd, Nat.reduceLeDiff]; (first | done | rfl))
    | ((first | apply g_T | apply g_F); · intro hb; simp only [go_sem, Nat.reduceEqDiff, Nat.reduceAdd, Nat.reduceLeDiff, hb]; (first | done | rfl))
    | ((first | apply g_gT | apply g_gF); · intro hb hc; simp only [go_sem, Nat.reduceEqDiff, Nat.reduceAdd, Nat.reduceLeDiff, hb, hc]; (first | done | rfl))
    | refine g_skT ?_ | refine g_skF ?_
    | ((first | apply g_goT | apply g_goF); · simp only [go_sem, Nat.reduceEqDiff, Nat.reduceAdd, Nat.reduceLeDiff]; (first | done | rfl))
    | (refine w_condT ?_ ?_; · simp only [go_sem, Nat.reduceEqDiff, Nat.reduceAdd, Nat.reduceLeDiff]; (first | done | rfl))
    | (refine w_condF ?_ ?_; · simp only [go_sem, Nat.reduceEqDiff, Nat.reduceAdd, Nat.reduceLeDiff]; (first | done | rfl))
    | refine w_skip ?_ | refine w_exit ?_ | refine w_ret ?_
    | fail
    )
      intro j hj
      by_cases hji : j = i
      · rw [hji]; exact hpi
      · exact h3 j (by omega)
  · rintro fr1 σ1 h3 hfr
    try simp only [if_true]
    (repeat' first
    | refine w_seq ?_ | refine w_rg ?_ | refine wo_nil ?_ | refine g_skU ?_
    | ((first | apply s_plain | apply s_void | apply s_guard); · simp only [go_sem, Nat.reduceEqDiff, Nat.reduceAdd, Nat.reduceLeDiff]; (first | done | rfl))
    | ((first | apply g_T | apply g_F); · intro hb; simp only [go_sem, Nat.reduceEqDiff, Nat.reduceAdd, Nat.reduceLeDiff, hb]; (first | done | rfl))
    | ((first | apply g_gT | apply g_gF); · intro hb hc; simp only [go_sem, Nat.reduceEqDiff, Nat.reduceAdd, Nat.reduceLeDiff, hb, hc]; (first | done | rfl))
    | refine g_skT ?_ | refine g_skF ?_
    | ((first | apply g_goT | apply g_goF); · simp only [go_sem, Nat.reduceEqDiff, Nat.reduceAdd, Nat.reduceLeDiff]; (first | done | rfl))
    | (refine w_condT ?_ ?_; · simp only [go_sem, Nat.reduceEqDiff, Nat.reduceAdd, Nat.reduceLeDiff]; (first | done | rfl))
    | (refine w_condF ?_ ?_; · simp only [go_sem, Nat.reduceEqDiff, Nat.reduceAdd, Nat.reduceLeDiff]; (first | done | rfl))
    | refine w_skip ?_ | refine w_exit ?_ | refine w_ret ?_
    | fail
    )
    have hf : l.contains s = false := by rw [← idxT_has]; unfold idxT; rw [found_none (p := fun i => l[i]? == some s) h3]; rfl
    exact ⟨by first | exact .inr rfl | exact .inr trivial | exact .inl rfl, by simp only [go_sem, Nat.reduceEqDiff, Nat.reduceAdd, Nat.reduceLeDiff, retOf, resOf, hf]; first | done | rfl⟩
theorem drop_eq {p : UInt8 → Bool} {l : List UInt8} : l.dropWhile p = l ↔ l = [] ∨ p (byteD l 0) = false := by
  cases l with
  | nil => simp
  | cons x r =>
    have hb : byteD (x :: r) 0 = x := rfl
    rw [hb, List.dropWhile_cons]
    cases hp : p x with
    | false => simp
    | true =>
      simp only [if_true, reduceCtorEq, Bool.true_eq_false, or_self, iff_false]
      intro h
      have h1 := congrArg List.length h
      have h2 := (List.dropWhile_sublist p (l := r)).length_le
      simp at h1
      omega
theorem trim_same {l cs : List UInt8} : Lib.trimS l cs = l ↔ l = [] ∨ (cs.contains (byteD l 0) = false ∧ cs.contains (byteD l (l.length - 1)) = false) := by
  by_cases hl : l = []
  · subst hl; simp [Lib.trimS, Lib.trimLeftS, Lib.trimRightS]
  · have h0 : 0 < l.length := List.length_pos_iff.2 hl
    have hr : byteD l.reverse 0 = byteD l (l.length - 1) := by
      unfold byteD; rw [List.getElem?_reverse h0, Nat.sub_zero]
    have hrr : Lib.trimRightS l cs = l ↔ cs.contains (byteD l (l.length - 1)) = false := by
      unfold Lib.trimRightS
      rw [List.reverse_eq_iff, drop_eq, hr]
      simp [hl]
    have hll : Lib.trimLeftS l cs = l ↔ cs.contains (byteD l 0) = false := by
      unfold Lib.trimLeftS
      rw [drop_eq]
      simp [hl]
    simp only [hl, false_or]
    constructor
    · intro h
      have h1 : (Lib.trimLeftS (Lib.trimRightS l cs) cs).length ≤ (Lib.trimRightS l cs).length := (List.dropWhile_sublist _).length_le
      have h2 : (Lib.trimRightS l cs).length ≤ l.length := by
        unfold Lib.trimRightS
        rw [List.length_reverse]
        have := (List.dropWhile_sublist (cs.contains ·) (l := l.reverse)).length_le
        rwa [List.length_reverse] at this
      have h3 := congrArg List.length h
      unfold Lib.trimS at h3 h
      have hs : (Lib.trimRightS l cs) = l := by
        have hsub : (Lib.trimRightS l cs).Sublist l := by
          unfold Lib.trimRightS
          have := (List.dropWhile_sublist (cs.contains ·) (l := l.reverse)).reverse
          rwa [List.reverse_reverse] at this
        exact hsub.eq_of_length (by omega)
      rw [hs] at h
      exact ⟨hll.1 h, hrr.1 hs⟩
    · rintro ⟨h1, h2⟩
      unfold Lib.trimS
      rw [hrr.2 h2, hll.2 h1]
theorem a32 (F : Has ldf env) {l : List UInt8} (hn : l.length ≤ 4000000000) : AV env 32 [txt l] = some (.sc (.bool (valD l))) := by
  refine AV_wp (F (32, d32) (by simp [ldf])) rfl ?_
  (repeat' first
    | refine w_seq ?_ | refine w_rg ?_ | refine wo_nil ?_ | refine g_skU ?_
    | ((first | apply s_plain | apply s_void | apply s_guard); · simp only [go_sem, Nat.reduceEqDiff, Nat.reduceAdd, Nat.reduceLeDiff]; (first | done | rfl))
    | ((first | apply g_T | apply g_F); · intro hb; simp only [go_sem, Nat.reduceEqDiff, Nat.reduceAdd, Nat.reduceLeDiff, hb]; (first | done | rfl))
    | ((first | apply g_gT | apply g_gF); · intro hb hc; simp only [go_sem, Nat.reduceEqDiff, Nat.reduceAdd, Nat.reduceLeDiff, hb, hc]; (first | done | rfl))
    | refine g_skT ?_ | refine g_skF ?_
    | ((first | apply g_goT | apply g_goF); · simp only [go_sem, Nat.reduceEqDiff, Nat.reduceAdd, Nat.reduceLeDiff]; (first | done | rfl))
    | fail
    )
  refine w_block (w_bytesF (ti := 3) l valC (by simp only [go_sem, Nat.reduceEqDiff, Nat.reduceAdd, Nat.reduceLeDiff]) ?_ ?_)
  · intro i fr1 hi f1 hfr _
    have f0_0 := hfr 0 rfl; try (simp only [go_sem, Nat.reduceEqDiff, Nat.reduceAdd, Nat.reduceLeDiff] at f0_0)
    have hd : decide ((i : Int) < (l.length : Int)) = true := by simp; omega
    have e1 : (0 : Int) ≤ (i : Int) := by omega
    have w1 : IntKind.i64.wrap ((i : Int) + 1) = ((i + 1 : Nat) : Int) := by rw [IntKind.wrap_i64]; omega
    have hq := byteD_q hi
    (repeat' first
    | refine w_seq ?_ | refine w_rg ?_ | refine wo_nil ?_ | refine g_skU ?_
    | ((first | apply s_plain | apply s_void | apply s_guard); · simp only [go_sem, Nat.reduceEqDiff, Nat.reduceAdd, Nat.reduceLeDiff, f0_0, f1, hd, ba_data, ba_size, ba_toList, ba_extract, ba_append, List.toList_toArray]; (first | done | rfl))
    | ((first | apply g_T | apply g_F); · intro hb; simp only [go_sem, Nat.reduceEqDiff, Nat.reduceAdd, Nat.reduceLeDiff, f0_0, f1, hd, ba_data, ba_size, ba_toList, ba_extract, ba_append, List.toList_toArray, hb]; (first | done | rfl))
    | ((first | apply g_gT | apply g_gF); · intro hb hc; simp only [go_sem, Nat.reduceEqDiff, Nat.reduceAdd, Nat.reduceLeDiff, f0_0, f1, hd, ba_data, ba_size, ba_toList, ba_extract, ba_append, List.toList_toArray, hb, hc]; (first | done | rfl))
    | refine g_skT ?_ | refine g_skF ?_
    | ((first | apply g_goT | apply g_goF); · simp only [go_sem, Nat.reduceEqDiff, Nat.reduceAdd, Nat.reduceLeDiff, f0_0, f1, hd, ba_data, ba_size, ba_toList, ba_extract, ba_append, List.toList_toArray]; (first | done | rfl))
    | (refine w_condT ?_ ?_; · simp only [go_sem, Nat.reduceEqDiff, Nat.reduceAdd, Nat.reduceLeDiff, f0_0, f1, hd, ba_data, ba_size, ba_toList, ba_extract, ba_append, List.toList_toArray]; (first | done | rfl))
    | (refine w_condF ?_ ?_; · simp only [go_sem, Nat.reduceEqDiff, Nat.reduceAdd, Nat.reduceLeDiff, f0_0, f1, hd, ba_data, ba_size, ba_toList, ba_extract, ba_append, List.toList_toArray]; (first | done | rfl))
    | refine w_skip ?_ | refine w_exit ?_ | refine w_ret ?_
    | fail
    )
    refine w_block ?_
    (repeat' first
    | refine w_seq ?_ | refine w_rg ?_ | refine wo_nil ?_ | refine g_skU ?_
    | ((first | apply s_plain | apply s_void | apply s_guard); · simp only [go_sem, Nat.reduceEqDiff, Nat.reduceAdd, Nat.reduceLeDiff, f0_0, f1, e1, Int.toNat_natCast, hq, ba_data, ba_size, ba_toList, ba_extract, ba_append, List.toList_toArray]; (first | done | rfl))
    | ((first | apply g_T | apply g_F); · intro hb; simp only [go_sem, Nat.reduceEqDiff, Nat.reduceAdd, Nat.reduceLeDiff, f0_0, f1, e1, Int.toNat_natCast, hq, ba_data, ba_size, ba_toList, ba_extract, ba_append, List.toList_toArray, hb]; (first | done | rfl))
    | ((first | apply g_gT | apply g_gF); · intro hb hc; simp only [go_sem, Nat.reduceEqDiff, Nat.reduceAdd, Nat.reduceLeDiff, f0_0, f1, e1, Int.toNat_natCast, hq, ba_data, ba_size, ba_toList, ba_extract, ba_append, List.toList_toArray, hb, hc]; (first | done | rfl))
    | refine g_skT ?_ | refine g_skF ?_
    | ((first | apply g_goT | apply g_goF); · simp only [go_sem, Nat.reduceEqDiff, Nat.reduceAdd, Nat.reduceLeDiff, f0_0, f1, e1, Int.toNat_natCast, hq, ba_data, ba_size, ba_toList, ba_extract, ba_append, List.toList_toArray]; (first | done | rfl))
    | fail
    )
    have hbad : (!valC (byteD l i)) = (decide (((byteD l i).toNat : Int) < 32) || decide (((byteD l i).toNat : Int) > 126) || (((byteD l i).toNat : Int) == 59)) := by
      unfold valC
      rw [Bool.eq_iff_iff]
      simp
      omega
    cases hpi : valC (byteD l i) with
    | false =>
      rw [hpi] at hbad
      refine w_condT (by simp only [go_sem, Nat.reduceEqDiff, Nat.reduceAdd, Nat.reduceLeDiff]; exact congrArg (fun b => PV.sc (.bool b)) hbad.symm) ?_
      (repeat' first
    | refine w_seq ?_ | refine w_rg ?_ | refine wo_nil ?_ | refine g_skU ?_
    | ((first | apply s_plain | apply s_void | apply s_guard); · simp only [go_sem, Nat.reduceEqDiff, Nat.reduceAdd, Nat.reduceLeDiff]; (first | done | rfl))
    | ((first | apply g_T | apply g_F); · intro hb; simp only [go_sem, Nat.reduceEqDiff, Nat.reduceAdd, Nat.reduceLeDiff, hb]; (first | done | rfl))
    | ((first | apply g_gT | apply g_gF); · intro hb hc; simp only [go_sem, Nat.reduceEqDiff, Nat.reduceAdd, Nat.reduceLeDiff, hb, hc]; (first | done | rfl))
    | refine g_skT ?_ | refine g_skF ?_
    | ((first | apply g_goT | apply g_goF); · simp only [go_sem, Nat.reduceEqDiff, Nat.reduceAdd, Nat.reduceLeDiff]; (first | done | rfl))
    | (refine w_condT ?_ ?_; · simp only [go_sem, Nat.reduceEqDiff, Nat.reduceAdd, Nat.reduceLeDiff]; (first | done | rfl))
    | (refine w_condF ?_ ?_; · simp only [go_sem, Nat.reduceEqDiff, Nat.reduceAdd, Nat.reduceLeDiff]; (first | done | rfl))
    | refine w_skip ?_ | refine w_exit ?_ | refine w_ret ?_
    | fail
    )
      exact ⟨by first | exact .inr rfl | exact .inr trivial | exact .inl rfl, by simp only [go_sem, Nat.reduceEqDiff, Nat.reduceAdd, Nat.reduceLeDiff, retOf, resOf, valD, all_no hi hpi, Bool.and_false]; first | done | rfl⟩
    | true =>
      rw [hpi] at hbad
      refine w_condF (by simp only [go_sem, Nat.reduceEqDiff, Nat.reduceAdd, Nat.reduceLeDiff]; exact congrArg (fun b => PV.sc (.bool b)) hbad.symm) ?_
      (repeat' first
    | refine w_seq ?_ | refine w_rg ?_ | refine wo_nil ?_ | refine g_skU ?_
    | ((first | apply s_plain | apply s_void | apply s_guard); · simp only [go_sem, Nat.reduceEqDiff, Nat.reduceAdd, Nat.reduceLeDiff, f1, w1]; (first | done | rfl))
    | ((first | apply g_T | apply g_F); · intro hb; simp only [go_sem, Nat.reduceEqDiff, Nat.reduceAdd, Nat.reduceLeDiff, f1, w1, hb]; (first | done | rfl))
    | ((first | apply g_gT | apply g_gF); · intro hb hc; simp only [go_sem, Nat.reduceEqDiff, Nat.reduceAdd, Nat.reduceLeDiff, f1, w1, hb, hc]; (first | done | rfl))
    | refine g_skT ?_ | refine g_skF ?_
    | ((first | apply g_goT | apply g_goF); · simp only [go_sem, Nat.reduceEqDiff, Nat.reduceAdd, Nat.reduceLeDiff, f1, w1]; (first | done | rfl))
    | (refine w_condT ?_ ?_; · simp only [go_sem, Nat.reduceEqDiff, Nat.reduceAdd, Nat.reduceLeDiff, f1, w1]; (first | done | rfl))
    | (refine w_condF ?_ ?_; · simp only [go_sem, Nat.reduceEqDiff, Nat.reduceAdd, Nat.reduceLeDiff, f1, w1]; (first | done | rfl))
    | refine w_skip ?_ | refine w_exit ?_ | refine w_ret ?_
    | fail
    )
      exact ⟨rfl, by simp only [go_sem, Nat.reduceEqDiff, Nat.reduceAdd, Nat.reduceLeDiff], rfl⟩
  · intro fr1 f1 hfr ha
    have f0_0 := hfr 0 rfl; try (simp only [go_sem, Nat.reduceEqDiff, Nat.reduceAdd, Nat.reduceLeDiff] at f0_0)
    have hd : decide ((l.length : Int) < (l.length : Int)) = false := by simp
    (repeat' first
    | refine w_seq ?_ | refine w_rg ?_ | refine wo_nil ?_ | refine g_skU ?_
    | ((first | apply s_plain | apply s_void | apply s_guard); · simp only [go_sem, Nat.reduceEqDiff, Nat.reduceAdd, Nat.reduceLeDiff, f0_0, f1, hd, ba_data, ba_size, ba_toList, ba_extract, ba_append, List.toList_toArray]; (first | done | rfl))
    | ((first | apply g_T | apply g_F); · intro hb; simp only [go_sem, Nat.reduceEqDiff, Nat.reduceAdd, Nat.reduceLeDiff, f0_0, f1, hd, ba_data, ba_size, ba_toList, ba_extract, ba_append, List.toList_toArray, hb]; (first | done | rfl))
    | ((first | apply g_gT | apply g_gF); · intro hb hc; simp only [go_sem, Nat.reduceEqDiff, Nat.reduceAdd, Nat.reduceLeDiff, f0_0, f1, hd, ba_data, ba_size, ba_toList, ba_extract, ba_append, List.toList_toArray, hb, hc]; (first | done | rfl))
    | refine g_skT ?_ | refine g_skF ?_
    | ((first | apply g_goT | apply g_goF); · simp only [go_sem, Nat.reduceEqDiff, Nat.reduceAdd, Nat.reduceLeDiff, f0_0, f1, hd, ba_data, ba_size, ba_toList, ba_extract, ba_append, List.toList_toArray]; (first | done | rfl))
    | (refine w_condT ?_ ?_; · simp only [go_sem, Nat.reduceEqDiff, Nat.reduceAdd, Nat.reduceLeDiff, f0_0, f1, hd, ba_data, ba_size, ba_toList, ba_extract, ba_append, List.toList_toArray]; (first | done | rfl))
    | (refine w_condF ?_ ?_; · simp only [go_sem, Nat.reduceEqDiff, Nat.reduceAdd, Nat.reduceLeDiff, f0_0, f1, hd, ba_data, ba_size, ba_toList, ba_extract, ba_append, List.toList_toArray]; (first | done | rfl))
    | refine w_skip ?_ | refine w_exit ?_ | refine w_ret ?_
    | fail
    )
    simp only [if_true]
    by_cases hl : l = []
    · subst hl
      (repeat' first
    | refine w_seq ?_ | refine w_rg ?_ | refine wo_nil ?_ | refine g_skU ?_
    | ((first | apply s_plain | apply s_void | apply s_guard); · simp only [go_sem, Nat.reduceEqDiff, Nat.reduceAdd, Nat.reduceLeDiff, f0_0, ba_data, ba_size, ba_toList, ba_extract, ba_append, List.toList_toArray, List.length_nil, Int.natCast_zero]; (first | done | rfl))
    | ((first | apply g_T | apply g_F); · intro hb; simp only [go_sem, Nat.reduceEqDiff, Nat.reduceAdd, Nat.reduceLeDiff, f0_0, ba_data, ba_size, ba_toList, ba_extract, ba_append, List.toList_toArray, List.length_nil, Int.natCast_zero, hb]; (first | done | rfl))
    | ((first | apply g_gT | apply g_gF); · intro hb hc; simp only [go_sem, Nat.reduceEqDiff, Nat.reduceAdd, Nat.reduceLeDiff, f0_0, ba_data, ba_size, ba_toList, ba_extract, ba_append, List.toList_toArray, List.length_nil, Int.natCast_zero, hb, hc]; (first | done | rfl))
    | refine g_skT ?_ | refine g_skF ?_
    | ((first | apply g_goT | apply g_goF); · simp only [go_sem, Nat.reduceEqDiff, Nat.reduceAdd, Nat.reduceLeDiff, f0_0, ba_data, ba_size, ba_toList, ba_extract, ba_append, List.toList_toArray, List.length_nil, Int.natCast_zero]; (first | done | rfl))
    | (refine w_condT ?_ ?_; · simp only [go_sem, Nat.reduceEqDiff, Nat.reduceAdd, Nat.reduceLeDiff, f0_0, ba_data, ba_size, ba_toList, ba_extract, ba_append, List.toList_toArray, List.length_nil, Int.natCast_zero]; (first | done | rfl))
    | (refine w_condF ?_ ?_; · simp only [go_sem, Nat.reduceEqDiff, Nat.reduceAdd, Nat.reduceLeDiff, f0_0, ba_data, ba_size, ba_toList, ba_extract, ba_append, List.toList_toArray, List.length_nil, Int.natCast_zero]; (first | done | rfl))
    | refine w_skip ?_ | refine w_exit ?_ | refine w_ret ?_
    | fail
    )
      exact ⟨by first | exact .inr rfl | exact .inr trivial | exact .inl rfl, by simp only [go_sem, Nat.reduceEqDiff, Nat.reduceAdd, Nat.reduceLeDiff, retOf, resOf]; first | done | rfl⟩
    · have h0 : 0 < l.length := List.length_pos_iff.2 hl
      have hq0 := byteD_q h0
      have hq1 := byteD_q (s := l) (i := l.length - 1) (by omega)
      have w1 : IntKind.i64.wrap ((l.length : Int) - 1) = ((l.length - 1 : Nat) : Int) := by rw [IntKind.wrap_i64]; omega
      have e0 : (0 : Int) ≤ ((l.length - 1 : Nat) : Int) := by omega
      have hg : decide ((l.length : Int) > 0) = true := by simp; omega
      have b32 := u8_ne (byteD l 0) 32 (z := 32) rfl
      have b33 := u8_ne (byteD l (l.length - 1)) 32 (z := 32) rfl
      (repeat' first
    | refine w_seq ?_ | refine w_rg ?_ | refine wo_nil ?_ | refine g_skU ?_
    | ((first | apply s_plain | apply s_void | apply s_guard); · simp only [go_sem, Nat.reduceEqDiff, Nat.reduceAdd, Nat.reduceLeDiff, f0_0, ba_data, ba_size, ba_toList, ba_extract, ba_append, List.toList_toArray]; (first | done | rfl))
    | ((first | apply g_T | apply g_F); · intro hb; simp only [go_sem, Nat.reduceEqDiff, Nat.reduceAdd, Nat.reduceLeDiff, f0_0, ba_data, ba_size, ba_toList, ba_extract, ba_append, List.toList_toArray, hb]; (first | done | rfl))
    | ((first | apply g_gT | apply g_gF); · intro hb hc; simp only [go_sem, Nat.reduceEqDiff, Nat.reduceAdd, Nat.reduceLeDiff, f0_0, ba_data, ba_size, ba_toList, ba_extract, ba_append, List.toList_toArray, hb, hc]; (first | done | rfl))
    | refine g_skT ?_ | refine g_skF ?_
    | ((first | apply g_goT | apply g_goF); · simp only [go_sem, Nat.reduceEqDiff, Nat.reduceAdd, Nat.reduceLeDiff, f0_0, ba_data, ba_size, ba_toList, ba_extract, ba_append, List.toList_toArray]; (first | done | rfl))
    | fail
    )
      refine g_T (v := .sc (.int .u8 (byteD l 0).toNat)) (by
        intro hb
        simp only [go_sem, Nat.reduceEqDiff, Nat.reduceAdd, Nat.reduceLeDiff, f0_0, ba_data, ba_size, ba_toList, ba_extract, ba_append, List.toList_toArray, hb, hq0, Int.toNat_natCast, Int.toNat_zero, Int.le_refl]) ?_
      (repeat' first
    | refine w_seq ?_ | refine w_rg ?_ | refine wo_nil ?_ | refine g_skU ?_
    | ((first | apply s_plain | apply s_void | apply s_guard); · simp only [go_sem, Nat.reduceEqDiff, Nat.reduceAdd, Nat.reduceLeDiff, f0_0, ba_data, ba_size, ba_toList, ba_extract, ba_append, List.toList_toArray, w1]; (first | done | rfl))
    | ((first | apply g_T | apply g_F); · intro hb; simp only [go_sem, Nat.reduceEqDiff, Nat.reduceAdd, Nat.reduceLeDiff, f0_0, ba_data, ba_size, ba_toList, ba_extract, ba_append, List.toList_toArray, w1, hb]; (first | done | rfl))
    | ((first | apply g_gT | apply g_gF); · intro hb hc; simp only [go_sem, Nat.reduceEqDiff, Nat.reduceAdd, Nat.reduceLeDiff, f0_0, ba_data, ba_size, ba_toList, ba_extract, ba_append, List.toList_toArray, w1, hb, hc]; (first | done | rfl))
    | refine g_skT ?_ | refine g_skF ?_
    | ((first | apply g_goT | apply g_goF); · simp only [go_sem, Nat.reduceEqDiff, Nat.reduceAdd, Nat.reduceLeDiff, f0_0, ba_data, ba_size, ba_toList, ba_extract, ba_append, List.toList_toArray, w1]; (first | done | rfl))
    | fail
    )
      refine g_T (v := .sc (.int .u8 (byteD l (l.length - 1)).toNat)) (by
        intro hb
        simp only [go_sem, Nat.reduceEqDiff, Nat.reduceAdd, Nat.reduceLeDiff, f0_0, ba_data, ba_size, ba_toList, ba_extract, ba_append, List.toList_toArray, hb, w1, e0, hq1, Int.toNat_natCast]) ?_
      (repeat' first
    | refine w_seq ?_ | refine w_rg ?_ | refine wo_nil ?_ | refine g_skU ?_
    | ((first | apply s_plain | apply s_void | apply s_guard); · simp only [go_sem, Nat.reduceEqDiff, Nat.reduceAdd, Nat.reduceLeDiff, f0_0, ba_data, ba_size, ba_toList, ba_extract, ba_append, List.toList_toArray, w1, b32, b33, hg]; (first | done | rfl))
    | ((first | apply g_T | apply g_F); · intro hb; simp only [go_sem, Nat.reduceEqDiff, Nat.reduceAdd, Nat.reduceLeDiff, f0_0, ba_data, ba_size, ba_toList, ba_extract, ba_append, List.toList_toArray, w1, b32, b33, hg, hb]; (first | done | rfl))
    | ((first | apply g_gT | apply g_gF); · intro hb hc; simp only [go_sem, Nat.reduceEqDiff, Nat.reduceAdd, Nat.reduceLeDiff, f0_0, ba_data, ba_size, ba_toList, ba_extract, ba_append, List.toList_toArray, w1, b32, b33, hg, hb, hc]; (first | done | rfl))
    | refine g_skT ?_ | refine g_skF ?_
    | ((first | apply g_goT | apply g_goF); · simp only [go_sem, Nat.reduceEqDiff, Nat.reduceAdd, Nat.reduceLeDiff, f0_0, ba_data, ba_size, ba_toList, ba_extract, ba_append, List.toList_toArray, w1, b32, b33, hg]; (first | done | rfl))
    | (refine w_condT ?_ ?_; · simp only [go_sem, Nat.reduceEqDiff, Nat.reduceAdd, Nat.reduceLeDiff, f0_0, ba_data, ba_size, ba_toList, ba_extract, ba_append, List.toList_toArray, w1, b32, b33, hg]; (first | done | rfl))
    | (refine w_condF ?_ ?_; · simp only [go_sem, Nat.reduceEqDiff, Nat.reduceAdd, Nat.reduceLeDiff, f0_0, ba_data, ba_size, ba_toList, ba_extract, ba_append, List.toList_toArray, w1, b32, b33, hg]; (first | done | rfl))
    | refine w_skip ?_ | refine w_exit ?_ | refine w_ret ?_
    | fail
    )
      have e : (decide ((l.length : Int) ≤ 200) && (byteD l 0 != 32) && (byteD l (l.length - 1) != 32)) = valD l := by
        unfold valD
        have ht := trim_same (l := l) (cs := [32])
        rw [ha, Bool.and_true, Bool.eq_iff_iff]
        simp only [Bool.and_eq_true, decide_eq_true_eq, bne_iff_ne, ht, hl, false_or, Bool.not_eq_true', List.isEmpty_eq_false_iff, List.contains_cons, List.contains_nil, Bool.or_false, beq_eq_false_iff_ne]
        constructor
        · rintro ⟨⟨h1, h2⟩, h3⟩; exact ⟨⟨by simpa using hl, by omega⟩, h2, h3⟩
        · rintro ⟨⟨_, h1⟩, h2, h3⟩; exact ⟨⟨by omega, h2⟩, h3⟩
      exact ⟨by first | exact .inr rfl | exact .inr trivial | exact .inl rfl, by simp only [go_sem, Nat.reduceEqDiff, Nat.reduceAdd, Nat.reduceLeDiff, retOf, resOf, e]; first | done | rfl⟩
end
end Go.Proofs.YtdlfomiclkpibaaDoorPv
namespace Go.Proofs.YtdlfomiclkpibaaDoorPv
open Go
set_option linter.unusedSimpArgs false
set_option linter.unusedVariables false
set_option maxHeartbeats 4000000
attribute [local go_sem ↓] e_mv e_pick e_bin e_eqs e_beq e_un e_cvi e_str e_s2b e_b2s e_box e_build e_bsl e_ld e_st e_nck e_mkf e_slcS e_slcL e_fa e_fld e_ia e_iaa e_ix e_ixa e_ext e_lenS e_lenL e_mnmx e_app e_appb e_bbx e_msl e_clr e_call e_callv pa_t pa_c pa_f slcSP_str hiOf_some hiOf_none loOf_some loOf_none set_eq set_ne
attribute [local go_sem] pv pv1 simple frOf_0 frOf_1 frOf_2 frOf_3 frOf_4 frOf_5 ne_eq not_false_eq_true if_true Bool.false_eq_true if_false pbin punary Option.map_some Option.bind_some pick_and pick_or opt_true Bool.true_and Bool.and_self Bool.and_true Bool.true_or Bool.false_or Bool.not_true Bool.not_false callE pcall_eq List.map_cons List.map_nil List.append_nil List.nil_append List.cons_append mapM_cons' mapM_nil' dep_eq fz_sc fz_sl fz_em fz_fn fz_fp fz_agg fz_tu fz_bx fz_ob Nat.lt_irrefl Nat.zero_lt_one Nat.lt_add_one flat clL cl Bool.or_true okc_sc okc_em okc_sl okc_ob okc_bx okc_fp okc_fn okc_agg okc_ifc cells_agg cells_sc cells_sl cells_em cells_ob cells_fn cells_bx cells_fp List.length_cons List.length_nil Nat.zero_add and_self true_and and_true new_m new_c put_m put_c nil_m nil_c deref List.getElem?_cons_zero List.getElem?_cons_succ List.drop_zero List.drop_succ_cons List.take_succ_cons List.take_zero Nat.le_refl false_and and_false decide_true decide_false lenP_em lenP_nil lenP_sl lenP_ob Int.ofNat_zero
set_option maxRecDepth 8000
/-- transhipment/transhipmentref01.Same -/
def d36 : Def := (.code 2 [.tmp 4] (.seq (.rg false [⟨.some 4, .none, .mv (.c (.bool false))⟩]) (.seq (.seq (.rg false [⟨.some 6, .none, .mv (.t 0)⟩, ⟨.some 7, .none, .lenL (.t 6)⟩, ⟨.some 8, .none, .mv (.t 1)⟩, ⟨.some 9, .none, .lenL (.t 8)⟩, ⟨.some 10, .none, .bin .neq (.t 7) (.t 9)⟩]) (.cond (.t 10) (.seq (.rg false [⟨.some 4, .none, .mv (.c (.bool false))⟩]) .ret) .skip)) (.seq (.seq (.rg false [⟨.some 11, .none, .mv (.t 0)⟩, ⟨.some 12, .none, .lenL (.t 11)⟩, ⟨.some 13, .none, .mv (.c (.int .i64 0))⟩]) (.block 0 (.loop (.seq (.rg false [⟨.some 14, .none, .bin .lss (.t 13) (.t 12)⟩]) (.seq (.cond (.t 14) .skip (.exit 0)) (.seq (.block 1 (.seq (.rg false [⟨.some 15, .none, .mv (.t 13)⟩, ⟨.some 5, .none, .mv (.t 15)⟩]) (.seq (.rg true [⟨.some 16, .none, .mv (.t 0)⟩, ⟨.some 17, .none, .mv (.t 5)⟩, ⟨.some 18, .none, .ia 1 (.t 16) (.t 17)⟩, ⟨.some 19, .none, .ld .none (.t 18)⟩, ⟨.some 20, .none, .mv (.t 1)⟩, ⟨.some 21, .none, .mv (.t 5)⟩, ⟨.some 22, .none, .ia 1 (.t 20) (.t 21)⟩, ⟨.some 23, .none, .ld .none (.t 22)⟩, ⟨.some 24, .none, .bin .neq (.t 19) (.t 23)⟩]) (.cond (.t 24) (.seq (.rg false [⟨.some 4, .none, .mv (.c (.bool false))⟩]) .ret) .skip)))) (.rg false [⟨.some 25, .none, .bin .add (.t 13) (.c (.int .i64 1))⟩, ⟨.some 13, .none, .mv (.t 25)⟩]))))))) (.seq (.rg false [⟨.some 4, .none, .mv (.c (.bool true))⟩]) .ret)))))
/-- transhipment/transhipmentref06.Like -/
def d12 : Def := (.code 2 [.tmp 4] (.seq (.rg false [⟨.some 4, .none, .mv (.c (.bool false))⟩]) (.seq (.seq (.rg false [⟨.some 6, .none, .mv (.t 0)⟩, ⟨.some 7, .none, .lenL (.t 6)⟩, ⟨.some 8, .none, .mv (.t 1)⟩, ⟨.some 9, .none, .lenL (.t 8)⟩, ⟨.some 10, .none, .bin .neq (.t 7) (.t 9)⟩]) (.cond (.t 10) (.seq (.rg false [⟨.some 4, .none, .mv (.c (.bool false))⟩]) .ret) .skip)) (.seq (.seq (.rg false [⟨.some 11, .none, .mv (.t 0)⟩, ⟨.some 12, .none, .lenL (.t 11)⟩, ⟨.some 13, .none, .mv (.c (.int .i64 0))⟩]) (.block 0 (.loop (.seq (.rg false [⟨.some 14, .none, .bin .lss (.t 13) (.t 12)⟩]) (.seq (.cond (.t 14) .skip (.exit 0)) (.seq (.block 1 (.seq (.rg false [⟨.some 15, .none, .mv (.t 13)⟩, ⟨.some 5, .none, .mv (.t 15)⟩]) (.seq (.rg true [⟨.some 16, .none, .mv (.t 0)⟩, ⟨.some 17, .none, .mv (.t 5)⟩, ⟨.some 18, .none, .ia 3 (.t 16) (.t 17)⟩, ⟨.some 19, .none, .fa 0 (.t 18)⟩, ⟨.some 20, .none, .ld .none (.t 19)⟩, ⟨.some 21, .none, .mv (.t 1)⟩, ⟨.some 22, .none, .mv (.t 5)⟩, ⟨.some 23, .none, .ia 3 (.t 21) (.t 22)⟩, ⟨.some 24, .none, .fa 0 (.t 23)⟩, ⟨.some 25, .none, .ld .none (.t 24)⟩, ⟨.some 26, .none, .bin .neq (.t 20) (.t 25)⟩, ⟨.some 27, .none, .mv (.t 26)⟩, ⟨.some 28, .some (27, false), .mv (.t 0)⟩, ⟨.some 29, .some (27, false), .mv (.t 5)⟩, ⟨.some 30, .some (27, false), .ia 3 (.t 28) (.t 29)⟩, ⟨.some 31, .some (27, false), .fa 1 (.t 30)⟩, ⟨.some 32, .some (27, false), .ld .none (.t 31)⟩, ⟨.some 33, .some (27, false), .mv (.t 1)⟩, ⟨.some 34, .some (27, false), .mv (.t 5)⟩, ⟨.some 35, .some (27, false), .ia 3 (.t 33) (.t 34)⟩, ⟨.some 36, .some (27, false), .fa 1 (.t 35)⟩, ⟨.some 37, .some (27, false), .ld .none (.t 36)⟩, ⟨.some 38, .some (27, false), .call 36 .strict [.t 32, .t 37]⟩, ⟨.some 39, .some (27, false), .un .not (.t 38)⟩, ⟨.some 40, .none, .pick (.t 27) (.c (.bool true)) (.t 39)⟩, ⟨.some 41, .none, .mv (.t 40)⟩, ⟨.some 42, .some (41, false), .mv (.t 0)⟩, ⟨.some 43, .some (41, false), .mv (.t 5)⟩, ⟨.some 44, .some (41, false), .ia 3 (.t 42) (.t 43)⟩, ⟨.some 45, .some (41, false), .fa 2 (.t 44)⟩, ⟨.some 46, .some (41, false), .ld .none (.t 45)⟩, ⟨.some 47, .some (41, false), .mv (.t 1)⟩, ⟨.some 48, .some (41, false), .mv (.t 5)⟩, ⟨.some 49, .some (41, false), .ia 3 (.t 47) (.t 48)⟩, ⟨.some 50, .some (41, false), .fa 2 (.t 49)⟩, ⟨.some 51, .some (41, false), .ld .none (.t 50)⟩, ⟨.some 52, .some (41, false), .call 36 .strict [.t 46, .t 51]⟩, ⟨.some 53, .some (41, false), .un .not (.t 52)⟩, ⟨.some 54, .none, .pick (.t 41) (.c (.bool true)) (.t 53)⟩]) (.cond (.t 54) (.seq (.rg false [⟨.some 4, .none, .mv (.c (.bool false))⟩]) .ret) .skip)))) (.rg false [⟨.some 55, .none, .bin .add (.t 13) (.c (.int .i64 1))⟩, ⟨.some 13, .none, .mv (.t 55)⟩]))))))) (.seq (.rg false [⟨.some 4, .none, .mv (.c (.bool true))⟩]) .ret)))))
def ldg : List (Nat × Def) := [(36, d36), (12, d12)]
section
variable {env : Nat → Option Def} {fr : Fr} {σ σ' σ'' : St} {K : Fr → St → Prop} {Q : X → Fr → St → Prop} {p : PV} {bs : List UInt8}
theorem a36 (D : Has ldg env) {a b : List (List UInt8)} (hn : a.length ≤ 9223372036854775807) : AV env 36 [.sl (txts a), .sl (txts b)] = some (.sc (.bool (decide (a = b)))) := by
  refine AV_wp (D (36, d36) (by simp [ldg])) rfl ?_
  have hla := txts_len a
  have hlb := txts_len b
  (repeat' first
    | refine w_seq ?_ | refine w_rg ?_ | refine wo_nil ?_ | refine g_skU ?_
    | ((first | apply s_plain | apply s_void | apply s_guard); · simp only [go_sem, Nat.reduceEqDiff, Nat.reduceAdd, Nat.reduceLeDiff, hla, hlb]; (first | done | rfl))
    | ((first | apply g_T | apply g_F); · intro hb; simp only [go_sem, Nat.reduceEqDiff, Nat.reduceAdd, Nat.reduceLeDiff, hla, hlb, hb]; (first | done | rfl))
    | ((first | apply g_gT | apply g_gF); · intro hb hc; simp only [go_sem, Nat.reduceEqDiff, Nat.reduceAdd, Nat.reduceLeDiff, hla, hlb, hb, hc]; (first | done | rfl))
    | refine g_skT ?_ | refine g_skF ?_
    | ((first | apply g_goT | apply g_goF); · simp only [go_sem, Nat.reduceEqDiff, Nat.reduceAdd, Nat.reduceLeDiff, hla, hlb]; (first | done | rfl))
    | fail
    )
  by_cases hl : a.length = b.length
  · have hc : ((a.length : Int) != (b.length : Int)) = false := by rw [hl]; simp
    (repeat' first
    | refine w_seq ?_ | refine w_rg ?_ | refine wo_nil ?_ | refine g_skU ?_
    | ((first | apply s_plain | apply s_void | apply s_guard); · simp only [go_sem, Nat.reduceEqDiff, Nat.reduceAdd, Nat.reduceLeDiff, hc]; (first | done | rfl))
    | ((first | apply g_T | apply g_F); · intro hb; simp only [go_sem, Nat.reduceEqDiff, Nat.reduceAdd, Nat.reduceLeDiff, hc, hb]; (first | done | rfl))
    | ((first | apply g_gT | apply g_gF); · intro hb hc; simp only [go_sem, Nat.reduceEqDiff, Nat.reduceAdd, Nat.reduceLeDiff, hc, hb, hc]; (first | done | rfl))
    | refine g_skT ?_ | refine g_skF ?_
    | ((first | apply g_goT | apply g_goF); · simp only [go_sem, Nat.reduceEqDiff, Nat.reduceAdd, Nat.reduceLeDiff, hc]; (first | done | rfl))
    | (refine w_condT ?_ ?_; · simp only [go_sem, Nat.reduceEqDiff, Nat.reduceAdd, Nat.reduceLeDiff, hc]; (first | done | rfl))
    | (refine w_condF ?_ ?_; · simp only [go_sem, Nat.reduceEqDiff, Nat.reduceAdd, Nat.reduceLeDiff, hc]; (first | done | rfl))
    | refine w_skip ?_ | refine w_exit ?_ | refine w_ret ?_
    | fail
    )
    (repeat' first
    | refine w_seq ?_ | refine w_rg ?_ | refine wo_nil ?_ | refine g_skU ?_
    | ((first | apply s_plain | apply s_void | apply s_guard); · simp only [go_sem, Nat.reduceEqDiff, Nat.reduceAdd, Nat.reduceLeDiff, hla]; (first | done | rfl))
    | ((first | apply g_T | apply g_F); · intro hb; simp only [go_sem, Nat.reduceEqDiff, Nat.reduceAdd, Nat.reduceLeDiff, hla, hb]; (first | done | rfl))
    | ((first | apply g_gT | apply g_gF); · intro hb hc; simp only [go_sem, Nat.reduceEqDiff, Nat.reduceAdd, Nat.reduceLeDiff, hla, hb, hc]; (first | done | rfl))
    | refine g_skT ?_ | refine g_skF ?_
    | ((first | apply g_goT | apply g_goF); · simp only [go_sem, Nat.reduceEqDiff, Nat.reduceAdd, Nat.reduceLeDiff, hla]; (first | done | rfl))
    | fail
    )
    refine w_block (w_rangeF a.length hn (fun i fr σ => ∀ j, j < i → a[j]? = b[j]?) ⟨by decide, rfl, rfl⟩ (fun _ _ _ _ h => ⟨h, h, h⟩) (fun j hj => by omega) (by simp only [go_sem, Nat.reduceEqDiff, Nat.reduceAdd, Nat.reduceLeDiff]; first | done | rfl) (by simp only [go_sem, Nat.reduceEqDiff, Nat.reduceAdd, Nat.reduceLeDiff, hla]; first | done | rfl) ?_ ?_)
    · rintro i fr1 σ1 hi h3 hti hfr
      have f0_0 := hfr 0 rfl; have f0_1 := hfr 1 rfl; have f0_12 := hfr 12 rfl; try (simp only [go_sem, Nat.reduceEqDiff, Nat.reduceAdd, Nat.reduceLeDiff] at f0_0); try (simp only [go_sem, Nat.reduceEqDiff, Nat.reduceAdd, Nat.reduceLeDiff] at f0_1); try (simp only [go_sem, Nat.reduceEqDiff, Nat.reduceAdd, Nat.reduceLeDiff] at f0_12)
      have hi2 : i < b.length := by omega
      have qa := List.getElem?_eq_getElem hi
      have qb := List.getElem?_eq_getElem hi2
      have hx := txts_at qa
      have hy := txts_at qb
      have e1 : (0 : Int) ≤ (i : Int) ∧ (i : Int) < (a.length : Int) := by omega
      have e2 : (0 : Int) ≤ (i : Int) ∧ (i : Int) < (b.length : Int) := by omega
      refine w_block ?_
      (repeat' first
    | refine w_seq ?_ | refine w_rg ?_ | refine wo_nil ?_ | refine g_skU ?_
    | ((first | apply s_plain | apply s_void | apply s_guard); · simp only [go_sem, Nat.reduceEqDiff, Nat.reduceAdd, Nat.reduceLeDiff, f0_0, f0_1, f0_12, hti, e1, e2, hla, hlb, Int.toNat_natCast, hx, hy, ba_data, ba_size, ba_toList, ba_extract, ba_append, List.toList_toArray]; (first | done | rfl))
    | ((first | apply g_T | apply g_F); · intro hb; simp only [go_sem, Nat.reduceEqDiff, Nat.reduceAdd, Nat.reduceLeDiff, f0_0, f0_1, f0_12, hti, e1, e2, hla, hlb, Int.toNat_natCast, hx, hy, ba_data, ba_size, ba_toList, ba_extract, ba_append, List.toList_toArray, hb]; (first | done | rfl))
    | ((first | apply g_gT | apply g_gF); · intro hb hc; simp only [go_sem, Nat.reduceEqDiff, Nat.reduceAdd, Nat.reduceLeDiff, f0_0, f0_1, f0_12, hti, e1, e2, hla, hlb, Int.toNat_natCast, hx, hy, ba_data, ba_size, ba_toList, ba_extract, ba_append, List.toList_toArray, hb, hc]; (first | done | rfl))
    | refine g_skT ?_ | refine g_skF ?_
    | ((first | apply g_goT | apply g_goF); · simp only [go_sem, Nat.reduceEqDiff, Nat.reduceAdd, Nat.reduceLeDiff, f0_0, f0_1, f0_12, hti, e1, e2, hla, hlb, Int.toNat_natCast, hx, hy, ba_data, ba_size, ba_toList, ba_extract, ba_append, List.toList_toArray]; (first | done | rfl))
    | fail
    )
      by_cases he : a[i] = b[i]
      · have hb : (!(a[i] == b[i])) = false := by simp [he]
        (repeat' first
    | refine w_seq ?_ | refine w_rg ?_ | refine wo_nil ?_ | refine g_skU ?_
    | ((first | apply s_plain | apply s_void | apply s_guard); · simp only [go_sem, Nat.reduceEqDiff, Nat.reduceAdd, Nat.reduceLeDiff, hb]; (first | done | rfl))
    | ((first | apply g_T | apply g_F); · intro hb; simp only [go_sem, Nat.reduceEqDiff, Nat.reduceAdd, Nat.reduceLeDiff, hb, hb]; (first | done | rfl))
    | ((first | apply g_gT | apply g_gF); · intro hb hc; simp only [go_sem, Nat.reduceEqDiff, Nat.reduceAdd, Nat.reduceLeDiff, hb, hb, hc]; (first | done | rfl))
    | refine g_skT ?_ | refine g_skF ?_
    | ((first | apply g_goT | apply g_goF); · simp only [go_sem, Nat.reduceEqDiff, Nat.reduceAdd, Nat.reduceLeDiff, hb]; (first | done | rfl))
    | (refine w_condT ?_ ?_; · simp only [go_sem, Nat.reduceEqDiff, Nat.reduceAdd, Nat.reduceLeDiff, hb]; (first | done | rfl))
    | (refine w_condF ?_ ?_; · simp only [go_sem, Nat.reduceEqDiff, Nat.reduceAdd, Nat.reduceLeDiff, hb]; (first | done | rfl))
    | refine w_skip ?_ | refine w_exit ?_ | refine w_ret ?_
    | fail
    )
        intro j hj
        by_cases hji : j = i
        · rw [hji, qa, qb, he]
        · exact h3 j (by omega)
      · have hb : (!(a[i] == b[i])) = true := by simp [he]
        have hne : a ≠ b := fun h => he (by subst h; rfl)
        (repeat' first
    | refine w_seq ?_ | refine w_rg ?_ | refine wo_nil ?_ | refine g_skU ?_
    | ((first | apply s_plain | apply s_void | apply s_guard); · simp only [go_sem, Nat.reduceEqDiff, Nat.reduceAdd, Nat.reduceLeDiff, hb]; (first | done | rfl))
    | ((first | apply g_T | apply g_F); · intro hb; simp only [go_sem, Nat.reduceEqDiff, Nat.reduceAdd, Nat.reduceLeDiff, hb, hb]; (first | done | rfl))
    | ((first | apply g_gT | apply g_gF); · intro hb hc; simp only [go_sem, Nat.reduceEqDiff, Nat.reduceAdd, Nat.reduceLeDiff, hb, hb, hc]; (first | done | rfl))
    | refine g_skT ?_ | refine g_skF ?_
    | ((first | apply g_goT | apply g_goF); · simp only [go_sem, Nat.reduceEqDiff, Nat.reduceAdd, Nat.reduceLeDiff, hb]; (first | done | rfl))
    | (refine w_condT ?_ ?_; · simp only [go_sem, Nat.reduceEqDiff, Nat.reduceAdd, Nat.reduceLeDiff, hb]; (first | done | rfl))
    | (refine w_condF ?_ ?_; · simp only [go_sem, Nat.reduceEqDiff, Nat.reduceAdd, Nat.reduceLeDiff, hb]; (first | done | rfl))
    | refine w_skip ?_ | refine w_exit ?_ | refine w_ret ?_
    | fail
    )
        exact ⟨by first | exact .inr rfl | exact .inr trivial | exact .inl rfl, by simp only [go_sem, Nat.reduceEqDiff, Nat.reduceAdd, Nat.reduceLeDiff, retOf, resOf, decide_eq_false hne]; first | done | rfl⟩
    · rintro fr1 σ1 h3 hfr
      try simp only [if_true]
      have heq : a = b := List.ext_getElem? fun i => by
        by_cases hi : i < a.length
        · exact h3 i hi
        · rw [List.getElem?_eq_none (by omega), List.getElem?_eq_none (by omega)]
      (repeat' first
    | refine w_seq ?_ | refine w_rg ?_ | refine wo_nil ?_ | refine g_skU ?_
    | ((first | apply s_plain | apply s_void | apply s_guard); · simp only [go_sem, Nat.reduceEqDiff, Nat.reduceAdd, Nat.reduceLeDiff]; (first | done | rfl))
    | ((first | apply g_T | apply g_F); · intro hb; simp only [go_sem, Nat.reduceEqDiff, Nat.reduceAdd, Nat.reduceLeDiff, hb]; (first | done | rfl))
    | ((first | apply g_gT | apply g_gF); · intro hb hc; simp only [go_sem, Nat.reduceEqDiff, Nat.reduceAdd, Nat.reduceLeDiff, hb, hc]; (first | done | rfl))
    | refine g_skT ?_ | refine g_skF ?_
    | ((first | apply g_goT | apply g_goF); · simp only [go_sem, Nat.reduceEqDiff, Nat.reduceAdd, Nat.reduceLeDiff]; (first | done | rfl))
    | (refine w_condT ?_ ?_; · simp only [go_sem, Nat.reduceEqDiff, Nat.reduceAdd, Nat.reduceLeDiff]; (first | done | rfl))
    | (refine w_condF ?_ ?_; · simp only [go_sem, Nat.reduceEqDiff, Nat.reduceAdd, Nat.reduceLeDiff]; (first | done | rfl))
    | refine w_skip ?_ | refine w_exit ?_ | refine w_ret ?_
    | fail
    )
      exact ⟨by first | exact .inr rfl | exact .inr trivial | exact .inl rfl, by simp only [go_sem, Nat.reduceEqDiff, Nat.reduceAdd, Nat.reduceLeDiff, retOf, resOf, decide_eq_true heq]; first | done | rfl⟩
  · have hc : ((a.length : Int) != (b.length : Int)) = true := by simp; omega
    have hne : a ≠ b := fun h => hl (by rw [h])
    (repeat' first
    | refine w_seq ?_ | refine w_rg ?_ | refine wo_nil ?_ | refine g_skU ?_
    | ((first | apply s_plain | apply s_void | apply s_guard); · simp only [go_sem, Nat.reduceEqDiff, Nat.reduceAdd, Nat.reduceLeDiff, hc]; (first | done | rfl))
    | ((first | apply g_T | apply g_F); · intro hb; simp only [go_sem, Nat.reduceEqDiff, Nat.reduceAdd, Nat.reduceLeDiff, hc, hb]; (first | done | rfl))
    | ((first | apply g_gT | apply g_gF); · intro hb hc; simp only [go_sem, Nat.reduceEqDiff, Nat.reduceAdd, Nat.reduceLeDiff, hc, hb, hc]; (first | done | rfl))
    | refine g_skT ?_ | refine g_skF ?_
    | ((first | apply g_goT | apply g_goF); · simp only [go_sem, Nat.reduceEqDiff, Nat.reduceAdd, Nat.reduceLeDiff, hc]; (first | done | rfl))
    | (refine w_condT ?_ ?_; · simp only [go_sem, Nat.reduceEqDiff, Nat.reduceAdd, Nat.reduceLeDiff, hc]; (first | done | rfl))
    | (refine w_condF ?_ ?_; · simp only [go_sem, Nat.reduceEqDiff, Nat.reduceAdd, Nat.reduceLeDiff, hc]; (first | done | rfl))
    | refine w_skip ?_ | refine w_exit ?_ | refine w_ret ?_
    | fail
    )
    exact ⟨by first | exact .inr rfl | exact .inr trivial | exact .inl rfl, by simp only [go_sem, Nat.reduceEqDiff, Nat.reduceAdd, Nat.reduceLeDiff, retOf, resOf, decide_eq_false hne]; first | done | rfl⟩
theorem a12 (D : Has ldg env) {a b : List Df} (ha : Sms a) : AV env 12 [.sl (dfs a), .sl (dfs b)] = some (.sc (.bool (decide (a = b)))) := by
  refine AV_wp (D (12, d12) (by simp [ldg])) rfl ?_
  have hla := dfs_len a
  have hlb := dfs_len b
  (repeat' first
    | refine w_seq ?_ | refine w_rg ?_ | refine wo_nil ?_ | refine g_skU ?_
    | ((first | apply s_plain | apply s_void | apply s_guard); · simp only [go_sem, Nat.reduceEqDiff, Nat.reduceAdd, Nat.reduceLeDiff, hla, hlb]; (first | done | rfl))
    | ((first | apply g_T | apply g_F); · intro hb; simp only [go_sem, Nat.reduceEqDiff, Nat.reduceAdd, Nat.reduceLeDiff, hla, hlb, hb]; (first | done | rfl))
    | ((first | apply g_gT | apply g_gF); · intro hb hc; simp only [go_sem, Nat.reduceEqDiff, Nat.reduceAdd, Nat.reduceLeDiff, hla, hlb, hb, hc]; (first | done | rfl))
    | refine g_skT ?_ | refine g_skF ?_
    | ((first | apply g_goT | apply g_goF); · simp only [go_sem, Nat.reduceEqDiff, Nat.reduceAdd, Nat.reduceLeDiff, hla, hlb]; (first | done | rfl))
    | fail
    )
  by_cases hl : a.length = b.length
  · have hc : ((a.length : Int) != (b.length : Int)) = false := by rw [hl]; simp
    (repeat' first
    | refine w_seq ?_ | refine w_rg ?_ | refine wo_nil ?_ | refine g_skU ?_
    | ((first | apply s_plain | apply s_void | apply s_guard); · simp only [go_sem, Nat.reduceEqDiff, Nat.reduceAdd, Nat.reduceLeDiff, hc]; (first | done | rfl))
    | ((first | apply g_T | apply g_F); · intro hb; simp only [go_sem, Nat.reduceEqDiff, Nat.reduceAdd, Nat.reduceLeDiff, hc, hb]; (first | done | rfl))
    | ((first | apply g_gT | apply g_gF); · intro hb hc; simp only [go_sem, Nat.reduceEqDiff, Nat.reduceAdd, Nat.reduceLeDiff, hc, hb, hc]; (first | done | rfl))
    | refine g_skT ?_ | refine g_skF ?_
    | ((first | apply g_goT | apply g_goF); · simp only [go_sem, Nat.reduceEqDiff, Nat.reduceAdd, Nat.reduceLeDiff, hc]; (first | done | rfl))
    | (refine w_condT ?_ ?_; · simp only [go_sem, Nat.reduceEqDiff, Nat.reduceAdd, Nat.reduceLeDiff, hc]; (first | done | rfl))
    | (refine w_condF ?_ ?_; · simp only [go_sem, Nat.reduceEqDiff, Nat.reduceAdd, Nat.reduceLeDiff, hc]; (first | done | rfl))
    | refine w_skip ?_ | refine w_exit ?_ | refine w_ret ?_
    | fail
    )
    (repeat' first
    | refine w_seq ?_ | refine w_rg ?_ | refine wo_nil ?_ | refine g_skU ?_
    | ((first | apply s_plain | apply s_void | apply s_guard); · simp only [go_sem, Nat.reduceEqDiff, Nat.reduceAdd, Nat.reduceLeDiff, hla]; (first | done | rfl))
    | ((first | apply g_T | apply g_F); · intro hb; simp only [go_sem, Nat.reduceEqDiff, Nat.reduceAdd, Nat.reduceLeDiff, hla, hb]; (first | done | rfl))
    | ((first | apply g_gT | apply g_gF); · intro hb hc; simp only [go_sem, Nat.reduceEqDiff, Nat.reduceAdd, Nat.reduceLeDiff, hla, hb, hc]; (first | done | rfl))
    | refine g_skT ?_ | refine g_skF ?_
    | ((first | apply g_goT | apply g_goF); · simp only [go_sem, Nat.reduceEqDiff, Nat.reduceAdd, Nat.reduceLeDiff, hla]; (first | done | rfl))
    | fail
    )
    refine w_block (w_rangeF a.length (by have := ha.1; omega) (fun i fr σ => ∀ j, j < i → a[j]? = b[j]?) ⟨by decide, rfl, rfl⟩ (fun _ _ _ _ h => ⟨h, h, h⟩) (fun j hj => by omega) (by simp only [go_sem, Nat.reduceEqDiff, Nat.reduceAdd, Nat.reduceLeDiff]; first | done | rfl) (by simp only [go_sem, Nat.reduceEqDiff, Nat.reduceAdd, Nat.reduceLeDiff, hla]; first | done | rfl) ?_ ?_)
    · rintro i fr1 σ1 hi h3 hti hfr
      have f0_0 := hfr 0 rfl; have f0_1 := hfr 1 rfl; have f0_12 := hfr 12 rfl; try (simp only [go_sem, Nat.reduceEqDiff, Nat.reduceAdd, Nat.reduceLeDiff] at f0_0); try (simp only [go_sem, Nat.reduceEqDiff, Nat.reduceAdd, Nat.reduceLeDiff] at f0_1); try (simp only [go_sem, Nat.reduceEqDiff, Nat.reduceAdd, Nat.reduceLeDiff] at f0_12)
      have hi2 : i < b.length := by omega
      have qa := List.getElem?_eq_getElem hi
      have qb := List.getElem?_eq_getElem hi2
      have hx := dfs_at qa
      have hy := dfs_at qb
      have sm := ha.2 _ (List.getElem_mem hi)
      have e1 : (0 : Int) ≤ (i : Int) ∧ (i : Int) < (a.length : Int) := by omega
      have e2 : (0 : Int) ≤ (i : Int) ∧ (i : Int) < (b.length : Int) := by omega
      unfold df at hx hy
      have s1 := a36 D (a := a[i].ks) (b := b[i].ks) (by have := sm.ks.1; omega)
      have s2 := a36 D (a := a[i].vs) (b := b[i].vs) (by have := sm.vs.1; omega)
      refine w_block ?_
      (repeat' first
    | refine w_seq ?_ | refine w_rg ?_ | refine wo_nil ?_ | refine g_skU ?_
    | ((first | apply s_plain | apply s_void | apply s_guard); · simp only [go_sem, Nat.reduceEqDiff, Nat.reduceAdd, Nat.reduceLeDiff, f0_0, f0_1, f0_12, hti, e1, e2, hla, hlb, Int.toNat_natCast, hx, hy, s1, s2, ba_data, ba_size, ba_toList, ba_extract, ba_append, List.toList_toArray]; (first | done | rfl))
    | ((first | apply g_T | apply g_F); · intro hb; simp only [go_sem, Nat.reduceEqDiff, Nat.reduceAdd, Nat.reduceLeDiff, f0_0, f0_1, f0_12, hti, e1, e2, hla, hlb, Int.toNat_natCast, hx, hy, s1, s2, ba_data, ba_size, ba_toList, ba_extract, ba_append, List.toList_toArray, hb]; (first | done | rfl))
    | ((first | apply g_gT | apply g_gF); · intro hb hc; simp only [go_sem, Nat.reduceEqDiff, Nat.reduceAdd, Nat.reduceLeDiff, f0_0, f0_1, f0_12, hti, e1, e2, hla, hlb, Int.toNat_natCast, hx, hy, s1, s2, ba_data, ba_size, ba_toList, ba_extract, ba_append, List.toList_toArray, hb, hc]; (first | done | rfl))
    | refine g_skT ?_ | refine g_skF ?_
    | ((first | apply g_goT | apply g_goF); · simp only [go_sem, Nat.reduceEqDiff, Nat.reduceAdd, Nat.reduceLeDiff, f0_0, f0_1, f0_12, hti, e1, e2, hla, hlb, Int.toNat_natCast, hx, hy, s1, s2, ba_data, ba_size, ba_toList, ba_extract, ba_append, List.toList_toArray]; (first | done | rfl))
    | fail
    )
      have hd : (((!(a[i].ty == b[i].ty)) || !decide (a[i].ks = b[i].ks)) || !decide (a[i].vs = b[i].vs)) = !decide (a[i] = b[i]) := by
        generalize a[i] = x
        generalize b[i] = y
        obtain ⟨t, k, v⟩ := x
        obtain ⟨t2, k2, v2⟩ := y
        by_cases h1 : t = t2 <;> by_cases h2 : k = k2 <;> by_cases h3 : v = v2 <;> simp [h1, h2, h3, Df.mk.injEq]
      by_cases he : a[i] = b[i]
      · rw [decide_eq_true he] at hd
        (repeat' first
    | refine w_seq ?_ | refine w_rg ?_ | refine wo_nil ?_ | refine g_skU ?_
    | ((first | apply s_plain | apply s_void | apply s_guard); · simp only [go_sem, Nat.reduceEqDiff, Nat.reduceAdd, Nat.reduceLeDiff, hd, Bool.not_true]; (first | done | rfl))
    | ((first | apply g_T | apply g_F); · intro hb; simp only [go_sem, Nat.reduceEqDiff, Nat.reduceAdd, Nat.reduceLeDiff, hd, Bool.not_true, hb]; (first | done | rfl))
    | ((first | apply g_gT | apply g_gF); · intro hb hc; simp only [go_sem, Nat.reduceEqDiff, Nat.reduceAdd, Nat.reduceLeDiff, hd, Bool.not_true, hb, hc]; (first | done | rfl))
    | refine g_skT ?_ | refine g_skF ?_
    | ((first | apply g_goT | apply g_goF); · simp only [go_sem, Nat.reduceEqDiff, Nat.reduceAdd, Nat.reduceLeDiff, hd, Bool.not_true]; (first | done | rfl))
    | (refine w_condT ?_ ?_; · simp only [go_sem, Nat.reduceEqDiff, Nat.reduceAdd, Nat.reduceLeDiff, hd, Bool.not_true]; (first | done | rfl))
    | (refine w_condF ?_ ?_; · simp only [go_sem, Nat.reduceEqDiff, Nat.reduceAdd, Nat.reduceLeDiff, hd, Bool.not_true]; (first | done | rfl))
    | refine w_skip ?_ | refine w_exit ?_ | refine w_ret ?_
    | fail
    )
        intro j hj
        by_cases hji : j = i
        · rw [hji, qa, qb, he]
        · exact h3 j (by omega)
      · rw [decide_eq_false he] at hd
        have hne : a ≠ b := fun h => he (by subst h; rfl)
        (repeat' first
    | refine w_seq ?_ | refine w_rg ?_ | refine wo_nil ?_ | refine g_skU ?_
    | ((first | apply s_plain | apply s_void | apply s_guard); · simp only [go_sem, Nat.reduceEqDiff, Nat.reduceAdd, Nat.reduceLeDiff, hd, Bool.not_false]; (first | done | rfl))
    | ((first | apply g_T | apply g_F); · intro hb; simp only [go_sem, Nat.reduceEqDiff, Nat.reduceAdd, Nat.reduceLeDiff, hd, Bool.not_false, hb]; (first | done | rfl))
    | ((first | apply g_gT | apply g_gF); · intro hb hc; simp only [go_sem, Nat.reduceEqDiff, Nat.reduceAdd, Nat.reduceLeDiff, hd, Bool.not_false, hb, hc]; (first | done | rfl))
    | refine g_skT ?_ | refine g_skF ?_
    | ((first | apply g_goT | apply g_goF); · simp only [go_sem, Nat.reduceEqDiff, Nat.reduceAdd, Nat.reduceLeDiff, hd, Bool.not_false]; (first | done | rfl))
    | (refine w_condT ?_ ?_; · simp only [go_sem, Nat.reduceEqDiff, Nat.reduceAdd, Nat.reduceLeDiff, hd, Bool.not_false]; (first | done | rfl))
    | (refine w_condF ?_ ?_; · simp only [go_sem, Nat.reduceEqDiff, Nat.reduceAdd, Nat.reduceLeDiff, hd, Bool.not_false]; (first | done | rfl))
    | refine w_skip ?_ | refine w_exit ?_ | refine w_ret ?_
    | fail
    )
        exact ⟨by first | exact .inr rfl | exact .inr trivial | exact .inl rfl, by simp only [go_sem, Nat.reduceEqDiff, Nat.reduceAdd, Nat.reduceLeDiff, retOf, resOf, decide_eq_false hne]; first | done | rfl⟩
    · rintro fr1 σ1 h3 hfr
      try simp only [if_true]
      have heq : a = b := List.ext_getElem? fun i => by
        by_cases hi : i < a.length
        · exact h3 i hi
        · rw [List.getElem?_eq_none (by omega), List.getElem?_eq_none (by omega)]
      (repeat' first
    | refine w_seq ?_ | refine w_rg ?_ | refine wo_nil ?_ | refine g_skU ?_
    | ((first | apply s_plain | apply s_void | apply s_guard); · simp only [go_sem, Nat.reduceEqDiff, Nat.reduceAdd, Nat.reduceLeDiff]; (first | done | rfl))
    | ((first | apply g_T | apply g_F); · intro hb; simp only [go_sem, Nat.reduceEqDiff, Nat.reduceAdd, Nat.reduceLeDiff, hb]; (first | done | rfl))
    | ((first | apply g_gT | apply g_gF); · intro hb hc; simp only [go_sem, Nat.reduceEqDiff, Nat.reduceAdd, Nat.reduceLeDiff, hb, hc]; (first | done | rfl))
    | refine g_skT ?_ | refine g_skF ?_
    | ((first | apply g_goT | apply g_goF); · simp only [go_sem, Nat.reduceEqDiff, Nat.reduceAdd, Nat.reduceLeDiff]; (first | done | rfl))
    | (refine w_condT ?_ ?_; · simp only [go_sem, Nat.reduceEqDiff, Nat.reduceAdd, Nat.reduceLeDiff]; (first | done | rfl))
    | (refine w_condF ?_ ?_; · simp only [go_sem, Nat.reduceEqDiff, Nat.reduceAdd, Nat.reduceLeDiff]; (first | done | rfl))
    | refine w_skip ?_ | refine w_exit ?_ | refine w_ret ?_
    | fail
    )
      exact ⟨by first | exact .inr rfl | exact .inr trivial | exact .inl rfl, by simp only [go_sem, Nat.reduceEqDiff, Nat.reduceAdd, Nat.reduceLeDiff, retOf, resOf, decide_eq_true heq]; first | done | rfl⟩
  · have hc : ((a.length : Int) != (b.length : Int)) = true := by simp; omega
    have hne : a ≠ b := fun h => hl (by rw [h])
    (repeat' first
    | refine w_seq ?_ | refine w_rg ?_ | refine wo_nil ?_ | refine g_skU ?_
    | ((first | apply s_plain | apply s_void | apply s_guard); · simp only [go_sem, Nat.reduceEqDiff, Nat.reduceAdd, Nat.reduceLeDiff, hc]; (first | done | rfl))
    | ((first | apply g_T | apply g_F); · intro hb; simp only [go_sem, Nat.reduceEqDiff, Nat.reduceAdd, Nat.reduceLeDiff, hc, hb]; (first | done | rfl))
    | ((first | apply g_gT | apply g_gF); · intro hb hc; simp only [go_sem, Nat.reduceEqDiff, Nat.reduceAdd, Nat.reduceLeDiff, hc, hb, hc]; (first | done | rfl))
    | refine g_skT ?_ | refine g_skF ?_
    | ((first | apply g_goT | apply g_goF); · simp only [go_sem, Nat.reduceEqDiff, Nat.reduceAdd, Nat.reduceLeDiff, hc]; (first | done | rfl))
    | (refine w_condT ?_ ?_; · simp only [go_sem, Nat.reduceEqDiff, Nat.reduceAdd, Nat.reduceLeDiff, hc]; (first | done | rfl))
    | (refine w_condF ?_ ?_; · simp only [go_sem, Nat.reduceEqDiff, Nat.reduceAdd, Nat.reduceLeDiff, hc]; (first | done | rfl))
    | refine w_skip ?_ | refine w_exit ?_ | refine w_ret ?_
    | fail
    )
    exact ⟨by first | exact .inr rfl | exact .inr trivial | exact .inl rfl, by simp only [go_sem, Nat.reduceEqDiff, Nat.reduceAdd, Nat.reduceLeDiff, retOf, resOf, decide_eq_false hne]; first | done | rfl⟩
end
end Go.Proofs.YtdlfomiclkpibaaDoorPv
