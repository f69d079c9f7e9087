/-
What functions answer: words, names, values.
-/
import Derived.Test.YtjijlmfhnkipmaaDoorPvY
namespace Go.Proofs.YtjijlmfhnkipmaaDoorPv
open Go
set_option linter.unusedSimpArgs false
set_option linter.unusedVariables false
set_option maxHeartbeats 4000000
attribute [local go_sem ↓] e_mv e_pick e_bin e_eqs e_beq e_un e_cvi e_str e_s2b e_b2s e_box e_build e_bsl e_ld e_st e_nck e_mkf e_slcS e_slcL e_fa e_fld e_ia e_iaa e_ix e_ixa e_ext e_lenS e_lenL e_mnmx e_app e_msl e_clr e_call e_callv pa_t pa_c pa_f slcSP_str hiOf_some hiOf_none loOf_some loOf_none set_eq set_ne
attribute [local go_sem] pv pv1 simple frOf_0 frOf_1 frOf_2 frOf_3 frOf_4 frOf_5 ne_eq not_false_eq_true if_true Bool.false_eq_true if_false pbin punary Option.map_some Option.bind_some pick_and pick_or opt_true Bool.true_and Bool.and_self Bool.and_true Bool.true_or Bool.false_or Bool.not_true Bool.not_false callE pcall_eq List.map_cons List.map_nil List.append_nil List.nil_append List.cons_append mapM_cons' mapM_nil' dep_eq fz_sc fz_sl fz_em fz_fn fz_fp fz_agg fz_bx fz_ob Nat.lt_irrefl Nat.zero_lt_one Nat.lt_add_one flat clL cl Bool.or_true okc cells_agg cells_sc cells_sl cells_em cells_ob cells_fn cells_bx cells_fp List.length_cons List.length_nil Nat.zero_add and_self true_and and_true new_m new_c put_m put_c nil_m nil_c deref List.getElem?_cons_zero List.getElem?_cons_succ List.drop_zero List.drop_succ_cons List.take_succ_cons List.take_zero Nat.le_refl false_and and_false
set_option maxRecDepth 8000

/-- slices.IndexFunc[[]byte,byte] -/
def d85 : Def := (.code 2 [.tmp 4] (.seq (.rg false [⟨.some 4, .none, .mv (.c (.int .i64 0))⟩]) (.seq (.seq (.rg false [⟨.some 6, .none, .mv (.t 0)⟩, ⟨.some 7, .none, .lenL (.t 6)⟩, ⟨.some 8, .none, .mv (.c (.int .i64 0))⟩]) (.block 0 (.loop (.seq (.rg false [⟨.some 9, .none, .bin .lss (.t 8) (.t 7)⟩]) (.seq (.cond (.t 9) .skip (.exit 0)) (.seq (.block 1 (.seq (.rg false [⟨.some 10, .none, .mv (.t 8)⟩, ⟨.some 5, .none, .mv (.t 10)⟩]) (.seq (.rg false [⟨.some 11, .none, .mv (.t 1)⟩, ⟨.some 12, .none, .mv (.t 0)⟩, ⟨.some 13, .none, .mv (.t 5)⟩, ⟨.some 14, .none, .ia 1 (.t 12) (.t 13)⟩, ⟨.some 15, .none, .ld .none (.t 14)⟩, ⟨.some 16, .none, .callv (.t 11) .pure [.t 15]⟩]) (.cond (.t 16) (.seq (.rg false [⟨.some 17, .none, .mv (.t 5)⟩, ⟨.some 4, .none, .mv (.t 17)⟩]) .ret) .skip)))) (.rg false [⟨.some 18, .none, .bin .add (.t 8) (.c (.int .i64 1))⟩, ⟨.some 8, .none, .mv (.t 18)⟩]))))))) (.seq (.rg false [⟨.some 4, .none, .mv (.c (.int .i64 (-1)))⟩]) .ret))))
/-- slices.ContainsFunc[[]byte,byte] -/
def d67 : Def := (.code 2 [.tmp 4] (.seq (.rg false [⟨.some 4, .none, .mv (.c (.bool false))⟩]) (.seq (.rg false [⟨.some 5, .none, .mv (.t 0)⟩, ⟨.some 6, .none, .mv (.t 1)⟩, ⟨.some 7, .none, .call 85 .pure [.t 5, .t 6]⟩, ⟨.some 8, .none, .bin .geq (.t 7) (.c (.int .i64 0))⟩, ⟨.some 4, .none, .mv (.t 8)⟩]) .ret)))
/-- transhipment/block.word$1 -/
def d66 : Def := (.code 1 [.tmp 2] (.seq (.rg false [⟨.some 2, .none, .mv (.c (.bool false))⟩]) (.seq (.rg false [⟨.some 3, .none, .mv (.t 0)⟩, ⟨.some 4, .none, .bin .lss (.t 3) (.c (.int .u8 97))⟩, ⟨.some 5, .none, .mv (.t 4)⟩, ⟨.some 6, .some (5, false), .mv (.t 0)⟩, ⟨.some 7, .some (5, false), .bin .gtr (.t 6) (.c (.int .u8 122))⟩, ⟨.some 8, .none, .pick (.t 5) (.c (.bool true)) (.t 7)⟩, ⟨.some 9, .none, .mv (.t 8)⟩, ⟨.some 10, .some (9, true), .mv (.t 0)⟩, ⟨.some 11, .some (9, true), .bin .lss (.t 10) (.c (.int .u8 48))⟩, ⟨.some 12, .some (9, true), .mv (.t 11)⟩, ⟨.some 13, .some (12, false), .mv (.t 0)⟩, ⟨.some 14, .some (12, false), .bin .gtr (.t 13) (.c (.int .u8 57))⟩, ⟨.some 15, .some (9, true), .pick (.t 12) (.c (.bool true)) (.t 14)⟩, ⟨.some 16, .none, .pick (.t 9) (.t 15) (.c (.bool false))⟩, ⟨.some 17, .none, .mv (.t 16)⟩, ⟨.some 18, .some (17, true), .mv (.t 0)⟩, ⟨.some 19, .some (17, true), .bin .neq (.t 18) (.c (.int .u8 95))⟩, ⟨.some 20, .none, .pick (.t 17) (.t 19) (.c (.bool false))⟩, ⟨.some 2, .none, .mv (.t 20)⟩]) .ret)))
/-- transhipment/block.word -/
def d49 : Def := (.code 1 [.tmp 2] (.seq (.rg false [⟨.some 2, .none, .mv (.c (.bool false))⟩]) (.seq (.rg false [⟨.some 3, .none, .mv (.f 66)⟩]) (.seq (.rg false [⟨.some 4, .none, .mv (.t 0)⟩, ⟨.some 5, .none, .bin .neq (.t 4) (.c (.string ⟨#[]⟩))⟩, ⟨.some 6, .none, .mv (.t 5)⟩, ⟨.some 7, .some (6, true), .mv (.t 0)⟩, ⟨.some 8, .some (6, true), .lenS (.t 7)⟩, ⟨.some 9, .some (6, true), .bin .leq (.t 8) (.c (.int .i64 64))⟩, ⟨.some 10, .none, .pick (.t 6) (.t 9) (.c (.bool false))⟩, ⟨.some 11, .none, .mv (.t 10)⟩, ⟨.some 12, .some (11, true), .mv (.t 0)⟩, ⟨.some 13, .some (11, true), .s2b (.t 12)⟩, ⟨.some 14, .some (11, true), .mv (.t 3)⟩, ⟨.some 15, .some (11, true), .call 67 .pure [.t 13, .t 14]⟩, ⟨.some 16, .some (11, true), .un .not (.t 15)⟩, ⟨.some 17, .none, .pick (.t 11) (.t 16) (.c (.bool false))⟩, ⟨.some 2, .none, .mv (.t 17)⟩]) .ret))))
/-- transhipment/label.letter -/
def d138 : Def := (.code 1 [.tmp 2] (.seq (.rg false [⟨.some 2, .none, .mv (.c (.bool false))⟩]) (.seq (.rg false [⟨.some 3, .none, .mv (.t 0)⟩, ⟨.some 4, .none, .bin .geq (.t 3) (.c (.int .u8 97))⟩, ⟨.some 5, .none, .mv (.t 4)⟩, ⟨.some 6, .some (5, true), .mv (.t 0)⟩, ⟨.some 7, .some (5, true), .bin .leq (.t 6) (.c (.int .u8 122))⟩, ⟨.some 8, .none, .pick (.t 5) (.t 7) (.c (.bool false))⟩, ⟨.some 9, .none, .mv (.t 8)⟩, ⟨.some 10, .some (9, false), .mv (.t 0)⟩, ⟨.some 11, .some (9, false), .bin .geq (.t 10) (.c (.int .u8 65))⟩, ⟨.some 12, .some (9, false), .mv (.t 11)⟩, ⟨.some 13, .some (12, true), .mv (.t 0)⟩, ⟨.some 14, .some (12, true), .bin .leq (.t 13) (.c (.int .u8 90))⟩, ⟨.some 15, .some (9, false), .pick (.t 12) (.t 14) (.c (.bool false))⟩, ⟨.some 16, .none, .pick (.t 9) (.c (.bool true)) (.t 15)⟩, ⟨.some 17, .none, .mv (.t 16)⟩, ⟨.some 18, .some (17, false), .mv (.t 0)⟩, ⟨.some 19, .some (17, false), .bin .eql (.t 18) (.c (.int .u8 95))⟩, ⟨.some 20, .none, .pick (.t 17) (.c (.bool true)) (.t 19)⟩, ⟨.some 2, .none, .mv (.t 20)⟩]) .ret)))
/-- transhipment/label.value$1 -/
def d139 : Def := (.code 1 [.tmp 2] (.seq (.rg false [⟨.some 2, .none, .mv (.c (.bool false))⟩]) (.seq (.rg false [⟨.some 3, .none, .mv (.t 0)⟩, ⟨.some 4, .none, .bin .lss (.t 3) (.c (.int .u8 32))⟩, ⟨.some 5, .none, .mv (.t 4)⟩, ⟨.some 6, .some (5, false), .mv (.t 0)⟩, ⟨.some 7, .some (5, false), .bin .gtr (.t 6) (.c (.int .u8 126))⟩, ⟨.some 8, .none, .pick (.t 5) (.c (.bool true)) (.t 7)⟩, ⟨.some 2, .none, .mv (.t 8)⟩]) .ret)))
/-- transhipment/label.name -/
def d130 : Def := (.code 1 [.tmp 2] (.seq (.rg false [⟨.some 2, .none, .mv (.c (.bool false))⟩]) (.seq (.seq (.rg false [⟨.some 5, .none, .mv (.t 0)⟩, ⟨.some 6, .none, .lenS (.t 5)⟩, ⟨.some 7, .none, .mv (.c (.int .i64 0))⟩]) (.block 0 (.loop (.seq (.rg false [⟨.some 8, .none, .bin .lss (.t 7) (.t 6)⟩]) (.seq (.cond (.t 8) .skip (.exit 0)) (.seq (.block 1 (.seq (.rg false [⟨.some 9, .none, .mv (.t 7)⟩, ⟨.some 3, .none, .mv (.t 9)⟩]) (.seq (.rg false [⟨.some 10, .none, .mv (.t 0)⟩, ⟨.some 11, .none, .mv (.t 3)⟩, ⟨.some 12, .none, .ix (.t 10) (.t 11)⟩, ⟨.some 4, .none, .mv (.t 12)⟩]) (.seq (.rg false [⟨.some 13, .none, .mv (.t 4)⟩, ⟨.some 14, .none, .call 138 .pure [.t 13]⟩, ⟨.some 15, .none, .un .not (.t 14)⟩, ⟨.some 16, .none, .mv (.t 15)⟩, ⟨.some 17, .some (16, true), .mv (.t 3)⟩, ⟨.some 18, .some (16, true), .bin .eql (.t 17) (.c (.int .i64 0))⟩, ⟨.some 19, .some (16, true), .mv (.t 18)⟩, ⟨.some 20, .some (19, false), .mv (.t 4)⟩, ⟨.some 21, .some (19, false), .bin .lss (.t 20) (.c (.int .u8 48))⟩, ⟨.some 22, .some (16, true), .pick (.t 19) (.c (.bool true)) (.t 21)⟩, ⟨.some 23, .some (16, true), .mv (.t 22)⟩, ⟨.some 24, .some (23, false), .mv (.t 4)⟩, ⟨.some 25, .some (23, false), .bin .gtr (.t 24) (.c (.int .u8 57))⟩, ⟨.some 26, .some (16, true), .pick (.t 23) (.c (.bool true)) (.t 25)⟩, ⟨.some 27, .none, .pick (.t 16) (.t 26) (.c (.bool false))⟩]) (.cond (.t 27) (.seq (.rg false [⟨.some 2, .none, .mv (.c (.bool false))⟩]) .ret) .skip))))) (.rg false [⟨.some 28, .none, .bin .add (.t 7) (.c (.int .i64 1))⟩, ⟨.some 7, .none, .mv (.t 28)⟩]))))))) (.seq (.rg false [⟨.some 29, .none, .mv (.t 0)⟩, ⟨.some 30, .none, .bin .neq (.t 29) (.c (.string ⟨#[]⟩))⟩, ⟨.some 31, .none, .mv (.t 30)⟩, ⟨.some 32, .some (31, true), .mv (.t 0)⟩, ⟨.some 33, .some (31, true), .lenS (.t 32)⟩, ⟨.some 34, .some (31, true), .bin .leq (.t 33) (.c (.int .i64 64))⟩, ⟨.some 35, .none, .pick (.t 31) (.t 34) (.c (.bool false))⟩, ⟨.some 2, .none, .mv (.t 35)⟩]) .ret))))
/-- transhipment/label.value -/
def d131 : Def := (.code 1 [.tmp 2] (.seq (.rg false [⟨.some 2, .none, .mv (.c (.bool false))⟩]) (.seq (.rg false [⟨.some 3, .none, .mv (.t 0)⟩, ⟨.some 4, .none, .bin .neq (.t 3) (.c (.string ⟨#[]⟩))⟩, ⟨.some 5, .none, .mv (.t 4)⟩, ⟨.some 6, .some (5, true), .mv (.t 0)⟩, ⟨.some 7, .some (5, true), .lenS (.t 6)⟩, ⟨.some 8, .some (5, true), .bin .leq (.t 7) (.c (.int .i64 64))⟩, ⟨.some 9, .none, .pick (.t 5) (.t 8) (.c (.bool false))⟩, ⟨.some 10, .none, .mv (.t 9)⟩, ⟨.some 11, .some (10, true), .mv (.t 0)⟩, ⟨.some 12, .some (10, true), .s2b (.t 11)⟩, ⟨.some 13, .some (10, true), .call 67 .pure [.t 12, .f 139]⟩, ⟨.some 14, .some (10, true), .un .not (.t 13)⟩, ⟨.some 15, .none, .pick (.t 10) (.t 14) (.c (.bool false))⟩, ⟨.some 2, .none, .mv (.t 15)⟩]) .ret)))
/-- transhipment/rules.time -/
def d112 : Def := (.code 1 [.tmp 2] (.seq (.rg false [⟨.some 2, .none, .mv (.c (.bool false))⟩]) (.seq (.rg false [⟨.some 3, .none, .mv (.t 0)⟩, ⟨.some 4, .none, .bin .geq (.t 3) (.c (.int .i64 0))⟩, ⟨.some 5, .none, .mv (.t 4)⟩, ⟨.some 6, .some (5, true), .mv (.t 0)⟩, ⟨.some 7, .some (5, true), .bin .leq (.t 6) (.c (.int .i64 1099511627776))⟩, ⟨.some 8, .none, .pick (.t 5) (.t 7) (.c (.bool false))⟩, ⟨.some 2, .none, .mv (.t 8)⟩]) .ret)))

def la : List (Nat × Def) := [(85, d85), (67, d67), (66, d66), (49, d49), (138, d138), (139, d139), (130, d130), (131, d131), (112, d112)]
def la0 : List (Nat × Def) := [(85, d85), (67, d67), (138, d138), (139, d139), (130, d130), (131, d131)]
def Has (l : List (Nat × Def)) (env : Nat → Option Def) : Prop := ∀ p ∈ l, env p.1 = some p.2


section
variable {env : Nat → Option Def} {fr : Fr} {σ : St} {K : Fr → St → Prop}

theorem la_la0 (H : Has la env) : Has la0 env := fun p hp => H p (by
  simp only [la0, List.mem_cons, List.mem_nil_iff, or_false] at hp
  rcases hp with rfl | rfl | rfl | rfl | rfl | rfl <;> simp [la])

theorem a112 (H : Has la env) (n : Int) : AV env 112 [.sc (.int .i64 n)] = some (.sc (.bool (decide (n ≥ 0) && decide (n ≤ 1099511627776)))) := by
  refine AV_wp (H (112, d112) (by simp [la])) rfl ?_
  (repeat' first
    | refine w_seq ?_
    | refine w_rg ?_
    | refine wo_nil ?_
    | refine s_plain (by simp only [go_sem, Nat.reduceEqDiff, Nat.reduceAdd, Nat.reduceLeDiff]; first | done | rfl) ?_
    | refine s_void (by simp only [go_sem, Nat.reduceEqDiff, Nat.reduceAdd, Nat.reduceLeDiff]; first | done | rfl) ?_
    | refine s_guard (by simp only [go_sem, Nat.reduceEqDiff, Nat.reduceAdd, Nat.reduceLeDiff]; first | done | rfl) ?_
    | refine g_skU ?_
    | refine g_T (by intro hb; simp only [go_sem, Nat.reduceEqDiff, Nat.reduceAdd, Nat.reduceLeDiff, hb]; first | done | rfl) ?_
    | refine g_F (by intro hb; simp only [go_sem, Nat.reduceEqDiff, Nat.reduceAdd, Nat.reduceLeDiff, hb]; first | done | rfl) ?_
    | refine g_gT (by intro hb hc; simp only [go_sem, Nat.reduceEqDiff, Nat.reduceAdd, Nat.reduceLeDiff, hb, hc]; first | done | rfl) ?_
    | refine g_gF (by intro hb hc; simp only [go_sem, Nat.reduceEqDiff, Nat.reduceAdd, Nat.reduceLeDiff, hb, hc]; first | done | rfl) ?_
    | refine g_skT ?_
    | refine g_skF ?_
    | refine g_goT (by simp only [go_sem, Nat.reduceEqDiff, Nat.reduceAdd, Nat.reduceLeDiff]; first | done | rfl) ?_
    | refine g_goF (by simp only [go_sem, Nat.reduceEqDiff, Nat.reduceAdd, Nat.reduceLeDiff]; first | done | rfl) ?_
    | refine w_condT (by simp only [go_sem, Nat.reduceEqDiff, Nat.reduceAdd, Nat.reduceLeDiff]; first | done | rfl) ?_
    | refine w_condF (by simp only [go_sem, Nat.reduceEqDiff, Nat.reduceAdd, Nat.reduceLeDiff]; first | done | rfl) ?_
    | refine w_skip ?_
    | refine w_exit ?_
    | refine w_ret ?_
    )
  exact ⟨.inr rfl, by simp only [go_sem, Nat.reduceEqDiff, Nat.reduceAdd, Nat.reduceLeDiff, retOf, resOf]⟩

theorem a66 (H : Has la env) (c : Int) : AV env 66 [.sc (.int .u8 c)] = some (.sc (.bool ((decide (c < 97) || decide (c > 122)) && (decide (c < 48) || decide (c > 57)) && (c != 95)))) := by
  refine AV_wp (H (66, d66) (by simp [la])) rfl ?_
  (repeat' first
    | refine w_seq ?_
    | refine w_rg ?_
    | refine wo_nil ?_
    | refine s_plain (by simp only [go_sem, Nat.reduceEqDiff, Nat.reduceAdd, Nat.reduceLeDiff]; first | done | rfl) ?_
    | refine s_void (by simp only [go_sem, Nat.reduceEqDiff, Nat.reduceAdd, Nat.reduceLeDiff]; first | done | rfl) ?_
    | refine s_guard (by simp only [go_sem, Nat.reduceEqDiff, Nat.reduceAdd, Nat.reduceLeDiff]; first | done | rfl) ?_
    | refine g_skU ?_
    | refine g_T (by intro hb; simp only [go_sem, Nat.reduceEqDiff, Nat.reduceAdd, Nat.reduceLeDiff, hb]; first | done | rfl) ?_
    | refine g_F (by intro hb; simp only [go_sem, Nat.reduceEqDiff, Nat.reduceAdd, Nat.reduceLeDiff, hb]; first | done | rfl) ?_
    | refine g_gT (by intro hb hc; simp only [go_sem, Nat.reduceEqDiff, Nat.reduceAdd, Nat.reduceLeDiff, hb, hc]; first | done | rfl) ?_
    | refine g_gF (by intro hb hc; simp only [go_sem, Nat.reduceEqDiff, Nat.reduceAdd, Nat.reduceLeDiff, hb, hc]; first | done | rfl) ?_
    | refine g_skT ?_
    | refine g_skF ?_
    | refine g_goT (by simp only [go_sem, Nat.reduceEqDiff, Nat.reduceAdd, Nat.reduceLeDiff]; first | done | rfl) ?_
    | refine g_goF (by simp only [go_sem, Nat.reduceEqDiff, Nat.reduceAdd, Nat.reduceLeDiff]; first | done | rfl) ?_
    | refine w_condT (by simp only [go_sem, Nat.reduceEqDiff, Nat.reduceAdd, Nat.reduceLeDiff]; first | done | rfl) ?_
    | refine w_condF (by simp only [go_sem, Nat.reduceEqDiff, Nat.reduceAdd, Nat.reduceLeDiff]; first | done | rfl) ?_
    | refine w_skip ?_
    | refine w_exit ?_
    | refine w_ret ?_
    )
  exact ⟨.inr rfl, by simp only [go_sem, Nat.reduceEqDiff, Nat.reduceAdd, Nat.reduceLeDiff, retOf, resOf]⟩

theorem a138 (H : Has la0 env) (c : Int) : AV env 138 [.sc (.int .u8 c)] = some (.sc (.bool ((decide (c ≥ 97) && decide (c ≤ 122)) || (decide (c ≥ 65) && decide (c ≤ 90)) || (c == 95)))) := by
  refine AV_wp (H (138, d138) (by simp [la0])) rfl ?_
  (repeat' first
    | refine w_seq ?_
    | refine w_rg ?_
    | refine wo_nil ?_
    | refine s_plain (by simp only [go_sem, Nat.reduceEqDiff, Nat.reduceAdd, Nat.reduceLeDiff]; first | done | rfl) ?_
    | refine s_void (by simp only [go_sem, Nat.reduceEqDiff, Nat.reduceAdd, Nat.reduceLeDiff]; first | done | rfl) ?_
    | refine s_guard (by simp only [go_sem, Nat.reduceEqDiff, Nat.reduceAdd, Nat.reduceLeDiff]; first | done | rfl) ?_
    | refine g_skU ?_
    | refine g_T (by intro hb; simp only [go_sem, Nat.reduceEqDiff, Nat.reduceAdd, Nat.reduceLeDiff, hb]; first | done | rfl) ?_
    | refine g_F (by intro hb; simp only [go_sem, Nat.reduceEqDiff, Nat.reduceAdd, Nat.reduceLeDiff, hb]; first | done | rfl) ?_
    | refine g_gT (by intro hb hc; simp only [go_sem, Nat.reduceEqDiff, Nat.reduceAdd, Nat.reduceLeDiff, hb, hc]; first | done | rfl) ?_
    | refine g_gF (by intro hb hc; simp only [go_sem, Nat.reduceEqDiff, Nat.reduceAdd, Nat.reduceLeDiff, hb, hc]; first | done | rfl) ?_
    | refine g_skT ?_
    | refine g_skF ?_
    | refine g_goT (by simp only [go_sem, Nat.reduceEqDiff, Nat.reduceAdd, Nat.reduceLeDiff]; first | done | rfl) ?_
    | refine g_goF (by simp only [go_sem, Nat.reduceEqDiff, Nat.reduceAdd, Nat.reduceLeDiff]; first | done | rfl) ?_
    | refine w_condT (by simp only [go_sem, Nat.reduceEqDiff, Nat.reduceAdd, Nat.reduceLeDiff]; first | done | rfl) ?_
    | refine w_condF (by simp only [go_sem, Nat.reduceEqDiff, Nat.reduceAdd, Nat.reduceLeDiff]; first | done | rfl) ?_
    | refine w_skip ?_
    | refine w_exit ?_
    | refine w_ret ?_
    )
  exact ⟨.inr rfl, by simp only [go_sem, Nat.reduceEqDiff, Nat.reduceAdd, Nat.reduceLeDiff, retOf, resOf]⟩

theorem a139 (H : Has la0 env) (c : Int) : AV env 139 [.sc (.int .u8 c)] = some (.sc (.bool (decide (c < 32) || decide (c > 126)))) := by
  refine AV_wp (H (139, d139) (by simp [la0])) rfl ?_
  (repeat' first
    | refine w_seq ?_
    | refine w_rg ?_
    | refine wo_nil ?_
    | refine s_plain (by simp only [go_sem, Nat.reduceEqDiff, Nat.reduceAdd, Nat.reduceLeDiff]; first | done | rfl) ?_
    | refine s_void (by simp only [go_sem, Nat.reduceEqDiff, Nat.reduceAdd, Nat.reduceLeDiff]; first | done | rfl) ?_
    | refine s_guard (by simp only [go_sem, Nat.reduceEqDiff, Nat.reduceAdd, Nat.reduceLeDiff]; first | done | rfl) ?_
    | refine g_skU ?_
    | refine g_T (by intro hb; simp only [go_sem, Nat.reduceEqDiff, Nat.reduceAdd, Nat.reduceLeDiff, hb]; first | done | rfl) ?_
    | refine g_F (by intro hb; simp only [go_sem, Nat.reduceEqDiff, Nat.reduceAdd, Nat.reduceLeDiff, hb]; first | done | rfl) ?_
    | refine g_gT (by intro hb hc; simp only [go_sem, Nat.reduceEqDiff, Nat.reduceAdd, Nat.reduceLeDiff, hb, hc]; first | done | rfl) ?_
    | refine g_gF (by intro hb hc; simp only [go_sem, Nat.reduceEqDiff, Nat.reduceAdd, Nat.reduceLeDiff, hb, hc]; first | done | rfl) ?_
    | refine g_skT ?_
    | refine g_skF ?_
    | refine g_goT (by simp only [go_sem, Nat.reduceEqDiff, Nat.reduceAdd, Nat.reduceLeDiff]; first | done | rfl) ?_
    | refine g_goF (by simp only [go_sem, Nat.reduceEqDiff, Nat.reduceAdd, Nat.reduceLeDiff]; first | done | rfl) ?_
    | refine w_condT (by simp only [go_sem, Nat.reduceEqDiff, Nat.reduceAdd, Nat.reduceLeDiff]; first | done | rfl) ?_
    | refine w_condF (by simp only [go_sem, Nat.reduceEqDiff, Nat.reduceAdd, Nat.reduceLeDiff]; first | done | rfl) ?_
    | refine w_skip ?_
    | refine w_exit ?_
    | refine w_ret ?_
    )
  exact ⟨.inr rfl, by simp only [go_sem, Nat.reduceEqDiff, Nat.reduceAdd, Nat.reduceLeDiff, retOf, resOf]⟩

/-- The first place at which something holds, or -1. -/
def found (p : Nat → Bool) (n : Nat) : Int := match (List.range n).find? p with | some i => i | none => -1

theorem found_hit {p : Nat → Bool} {n i : Nat} (hi : i < n) (h : ∀ j, j < i → p j = false) (hp : p i = true) : found p n = i := by
  unfold found
  have : (List.range n).find? p = some i := by
    rw [List.find?_range_eq_some]
    exact ⟨hp, by simpa using hi, fun j hj => by simpa using h j hj⟩
  rw [this]

theorem found_none {p : Nat → Bool} {n : Nat} (h : ∀ j, j < n → p j = false) : found p n = -1 := by
  unfold found
  have : (List.range n).find? p = none := by
    rw [List.find?_range_eq_none]
    exact fun j hj => by simpa using h j hj
  rw [this]

theorem a85g {k0 : Nat} (hk0 : env k0 = some d85) {xs : List PV} {k : Nat} {a b : List PV} {p : Nat → Bool} (hn : xs.length ≤ 9223372036854775807) (h1 : ∀ (i : Nat) e, xs[i]? = some e → cellsOf e = [e])
    (hz : ∀ (i : Nat) e, xs[i]? = some e → ∀ σ, (a ++ [e] ++ b).mapM (fz σ 12) = some (a ++ [e] ++ b)) (hp : ∀ (i : Nat) e, xs[i]? = some e → AV env k (a ++ [e] ++ b) = some (.sc (.bool (p i)))) :
    AV env k0 [.sl xs, .fn k a b] = some (.sc (.int .i64 (found p xs.length))) := by
  refine AV_wp hk0 rfl ?_
  (repeat' first
    | refine w_seq ?_
    | refine w_rg ?_
    | refine wo_nil ?_
    | refine s_plain (by simp only [go_sem, Nat.reduceEqDiff, Nat.reduceAdd, Nat.reduceLeDiff]; first | done | rfl) ?_
    | refine s_void (by simp only [go_sem, Nat.reduceEqDiff, Nat.reduceAdd, Nat.reduceLeDiff]; first | done | rfl) ?_
    | refine s_guard (by simp only [go_sem, Nat.reduceEqDiff, Nat.reduceAdd, Nat.reduceLeDiff]; first | done | rfl) ?_
    | refine g_skU ?_
    | refine g_T (by intro hb; simp only [go_sem, Nat.reduceEqDiff, Nat.reduceAdd, Nat.reduceLeDiff, hb]; first | done | rfl) ?_
    | refine g_F (by intro hb; simp only [go_sem, Nat.reduceEqDiff, Nat.reduceAdd, Nat.reduceLeDiff, hb]; first | done | rfl) ?_
    | refine g_gT (by intro hb hc; simp only [go_sem, Nat.reduceEqDiff, Nat.reduceAdd, Nat.reduceLeDiff, hb, hc]; first | done | rfl) ?_
    | refine g_gF (by intro hb hc; simp only [go_sem, Nat.reduceEqDiff, Nat.reduceAdd, Nat.reduceLeDiff, hb, hc]; first | done | rfl) ?_
    | refine g_skT ?_
    | refine g_skF ?_
    | refine g_goT (by simp only [go_sem, Nat.reduceEqDiff, Nat.reduceAdd, Nat.reduceLeDiff]; first | done | rfl) ?_
    | refine g_goF (by simp only [go_sem, Nat.reduceEqDiff, Nat.reduceAdd, Nat.reduceLeDiff]; first | done | rfl) ?_
    )
  refine w_block (w_range xs.length hn (fun i fr σ => fr 0 = .sl xs ∧ fr 1 = .fn k a b ∧ ∀ j, j < i → p j = false) (by decide) ?_ ?_ ?_ _ _ ?_ ?_ ?_)
  · rintro i fr σ v ⟨h0, h1, h2⟩
    refine ⟨⟨?_, ?_, h2⟩, ⟨?_, ?_, h2⟩, ⟨?_, ?_, h2⟩⟩ <;> simp only [go_sem, Nat.reduceEqDiff, Nat.reduceAdd, Nat.reduceLeDiff, h0, h1]
  · rintro i fr σ hi ⟨h0, h2, h3⟩ hti htn
    have hx := List.getElem?_eq_getElem hi
    have e1 : (0 : Int) ≤ (i : Int) ∧ (i : Int) < (xs.length : Int) := by omega
    refine w_block ?_
    have hz' := hz i _ hx
    have hp' := hp i _ hx
    simp only [List.append_assoc, List.cons_append, List.nil_append] at hz' hp'
    (repeat' first
    | refine w_seq ?_
    | refine w_rg ?_
    | refine wo_nil ?_
    | refine s_plain (by simp only [go_sem, Nat.reduceEqDiff, Nat.reduceAdd, Nat.reduceLeDiff, h0, h2, hti, e1, Int.toNat_natCast, hx, h1 i _ hx, List.append_assoc, hz', hp']; first | done | rfl) ?_
    | refine s_void (by simp only [go_sem, Nat.reduceEqDiff, Nat.reduceAdd, Nat.reduceLeDiff, h0, h2, hti, e1, Int.toNat_natCast, hx, h1 i _ hx, List.append_assoc, hz', hp']; first | done | rfl) ?_
    | refine s_guard (by simp only [go_sem, Nat.reduceEqDiff, Nat.reduceAdd, Nat.reduceLeDiff, h0, h2, hti, e1, Int.toNat_natCast, hx, h1 i _ hx, List.append_assoc, hz', hp']; first | done | rfl) ?_
    | refine g_skU ?_
    | refine g_T (by intro hb; simp only [go_sem, Nat.reduceEqDiff, Nat.reduceAdd, Nat.reduceLeDiff, h0, h2, hti, e1, Int.toNat_natCast, hx, h1 i _ hx, List.append_assoc, hz', hp', hb]; first | done | rfl) ?_
    | refine g_F (by intro hb; simp only [go_sem, Nat.reduceEqDiff, Nat.reduceAdd, Nat.reduceLeDiff, h0, h2, hti, e1, Int.toNat_natCast, hx, h1 i _ hx, List.append_assoc, hz', hp', hb]; first | done | rfl) ?_
    | refine g_gT (by intro hb hc; simp only [go_sem, Nat.reduceEqDiff, Nat.reduceAdd, Nat.reduceLeDiff, h0, h2, hti, e1, Int.toNat_natCast, hx, h1 i _ hx, List.append_assoc, hz', hp', hb, hc]; first | done | rfl) ?_
    | refine g_gF (by intro hb hc; simp only [go_sem, Nat.reduceEqDiff, Nat.reduceAdd, Nat.reduceLeDiff, h0, h2, hti, e1, Int.toNat_natCast, hx, h1 i _ hx, List.append_assoc, hz', hp', hb, hc]; first | done | rfl) ?_
    | refine g_skT ?_
    | refine g_skF ?_
    | refine g_goT (by simp only [go_sem, Nat.reduceEqDiff, Nat.reduceAdd, Nat.reduceLeDiff, h0, h2, hti, e1, Int.toNat_natCast, hx, h1 i _ hx, List.append_assoc, hz', hp']; first | done | rfl) ?_
    | refine g_goF (by simp only [go_sem, Nat.reduceEqDiff, Nat.reduceAdd, Nat.reduceLeDiff, h0, h2, hti, e1, Int.toNat_natCast, hx, h1 i _ hx, List.append_assoc, hz', hp']; first | done | rfl) ?_
    )
    cases hpi : p i with
    | true =>
      (repeat' first
    | refine w_seq ?_
    | refine w_rg ?_
    | refine wo_nil ?_
    | refine s_plain (by simp only [go_sem, Nat.reduceEqDiff, Nat.reduceAdd, Nat.reduceLeDiff]; first | done | rfl) ?_
    | refine s_void (by simp only [go_sem, Nat.reduceEqDiff, Nat.reduceAdd, Nat.reduceLeDiff]; first | done | rfl) ?_
    | refine s_guard (by simp only [go_sem, Nat.reduceEqDiff, Nat.reduceAdd, Nat.reduceLeDiff]; first | done | rfl) ?_
    | refine g_skU ?_
    | refine g_T (by intro hb; simp only [go_sem, Nat.reduceEqDiff, Nat.reduceAdd, Nat.reduceLeDiff, hb]; first | done | rfl) ?_
    | refine g_F (by intro hb; simp only [go_sem, Nat.reduceEqDiff, Nat.reduceAdd, Nat.reduceLeDiff, hb]; first | done | rfl) ?_
    | refine g_gT (by intro hb hc; simp only [go_sem, Nat.reduceEqDiff, Nat.reduceAdd, Nat.reduceLeDiff, hb, hc]; first | done | rfl) ?_
    | refine g_gF (by intro hb hc; simp only [go_sem, Nat.reduceEqDiff, Nat.reduceAdd, Nat.reduceLeDiff, hb, hc]; first | done | rfl) ?_
    | refine g_skT ?_
    | refine g_skF ?_
    | refine g_goT (by simp only [go_sem, Nat.reduceEqDiff, Nat.reduceAdd, Nat.reduceLeDiff]; first | done | rfl) ?_
    | refine g_goF (by simp only [go_sem, Nat.reduceEqDiff, Nat.reduceAdd, Nat.reduceLeDiff]; first | done | rfl) ?_
    | refine w_condT (by simp only [go_sem, Nat.reduceEqDiff, Nat.reduceAdd, Nat.reduceLeDiff]; first | done | rfl) ?_
    | refine w_condF (by simp only [go_sem, Nat.reduceEqDiff, Nat.reduceAdd, Nat.reduceLeDiff]; first | done | rfl) ?_
    | refine w_skip ?_
    | refine w_exit ?_
    | refine w_ret ?_
    )
      exact ⟨.inr rfl, by simp only [go_sem, Nat.reduceEqDiff, Nat.reduceAdd, Nat.reduceLeDiff, retOf, resOf, found_hit hi h3 hpi]⟩
    | false =>
      (repeat' first
    | refine w_seq ?_
    | refine w_rg ?_
    | refine wo_nil ?_
    | refine s_plain (by simp only [go_sem, Nat.reduceEqDiff, Nat.reduceAdd, Nat.reduceLeDiff]; first | done | rfl) ?_
    | refine s_void (by simp only [go_sem, Nat.reduceEqDiff, Nat.reduceAdd, Nat.reduceLeDiff]; first | done | rfl) ?_
    | refine s_guard (by simp only [go_sem, Nat.reduceEqDiff, Nat.reduceAdd, Nat.reduceLeDiff]; first | done | rfl) ?_
    | refine g_skU ?_
    | refine g_T (by intro hb; simp only [go_sem, Nat.reduceEqDiff, Nat.reduceAdd, Nat.reduceLeDiff, hb]; first | done | rfl) ?_
    | refine g_F (by intro hb; simp only [go_sem, Nat.reduceEqDiff, Nat.reduceAdd, Nat.reduceLeDiff, hb]; first | done | rfl) ?_
    | refine g_gT (by intro hb hc; simp only [go_sem, Nat.reduceEqDiff, Nat.reduceAdd, Nat.reduceLeDiff, hb, hc]; first | done | rfl) ?_
    | refine g_gF (by intro hb hc; simp only [go_sem, Nat.reduceEqDiff, Nat.reduceAdd, Nat.reduceLeDiff, hb, hc]; first | done | rfl) ?_
    | refine g_skT ?_
    | refine g_skF ?_
    | refine g_goT (by simp only [go_sem, Nat.reduceEqDiff, Nat.reduceAdd, Nat.reduceLeDiff]; first | done | rfl) ?_
    | refine g_goF (by simp only [go_sem, Nat.reduceEqDiff, Nat.reduceAdd, Nat.reduceLeDiff]; first | done | rfl) ?_
    | refine w_condT (by simp only [go_sem, Nat.reduceEqDiff, Nat.reduceAdd, Nat.reduceLeDiff]; first | done | rfl) ?_
    | refine w_condF (by simp only [go_sem, Nat.reduceEqDiff, Nat.reduceAdd, Nat.reduceLeDiff]; first | done | rfl) ?_
    | refine w_skip ?_
    | refine w_exit ?_
    | refine w_ret ?_
    )
      refine ⟨⟨?_, ?_, fun j hj => ?_⟩, ?_, ?_⟩
      · simp only [go_sem, Nat.reduceEqDiff, Nat.reduceAdd, Nat.reduceLeDiff, h0]
      · simp only [go_sem, Nat.reduceEqDiff, Nat.reduceAdd, Nat.reduceLeDiff, h2]
      · by_cases hji : j = i
        · rw [hji]; exact hpi
        · exact h3 j (by omega)
      · simp only [go_sem, Nat.reduceEqDiff, Nat.reduceAdd, Nat.reduceLeDiff, hti]
      · simp only [go_sem, Nat.reduceEqDiff, Nat.reduceAdd, Nat.reduceLeDiff, htn]
  · rintro fr σ ⟨h0, h2, h3⟩
    simp only [if_true]
    (repeat' first
    | refine w_seq ?_
    | refine w_rg ?_
    | refine wo_nil ?_
    | refine s_plain (by simp only [go_sem, Nat.reduceEqDiff, Nat.reduceAdd, Nat.reduceLeDiff]; first | done | rfl) ?_
    | refine s_void (by simp only [go_sem, Nat.reduceEqDiff, Nat.reduceAdd, Nat.reduceLeDiff]; first | done | rfl) ?_
    | refine s_guard (by simp only [go_sem, Nat.reduceEqDiff, Nat.reduceAdd, Nat.reduceLeDiff]; first | done | rfl) ?_
    | refine g_skU ?_
    | refine g_T (by intro hb; simp only [go_sem, Nat.reduceEqDiff, Nat.reduceAdd, Nat.reduceLeDiff, hb]; first | done | rfl) ?_
    | refine g_F (by intro hb; simp only [go_sem, Nat.reduceEqDiff, Nat.reduceAdd, Nat.reduceLeDiff, hb]; first | done | rfl) ?_
    | refine g_gT (by intro hb hc; simp only [go_sem, Nat.reduceEqDiff, Nat.reduceAdd, Nat.reduceLeDiff, hb, hc]; first | done | rfl) ?_
    | refine g_gF (by intro hb hc; simp only [go_sem, Nat.reduceEqDiff, Nat.reduceAdd, Nat.reduceLeDiff, hb, hc]; first | done | rfl) ?_
    | refine g_skT ?_
    | refine g_skF ?_
    | refine g_goT (by simp only [go_sem, Nat.reduceEqDiff, Nat.reduceAdd, Nat.reduceLeDiff]; first | done | rfl) ?_
    | refine g_goF (by simp only [go_sem, Nat.reduceEqDiff, Nat.reduceAdd, Nat.reduceLeDiff]; first | done | rfl) ?_
    | refine w_condT (by simp only [go_sem, Nat.reduceEqDiff, Nat.reduceAdd, Nat.reduceLeDiff]; first | done | rfl) ?_
    | refine w_condF (by simp only [go_sem, Nat.reduceEqDiff, Nat.reduceAdd, Nat.reduceLeDiff]; first | done | rfl) ?_
    | refine w_skip ?_
    | refine w_exit ?_
    | refine w_ret ?_
    )
    exact ⟨.inr rfl, by simp only [go_sem, Nat.reduceEqDiff, Nat.reduceAdd, Nat.reduceLeDiff, retOf, resOf, found_none h3]⟩
  · refine ⟨?_, ?_, fun j hj => by omega⟩ <;> simp only [go_sem, Nat.reduceEqDiff, Nat.reduceAdd, Nat.reduceLeDiff]
  · simp only [go_sem, Nat.reduceEqDiff, Nat.reduceAdd, Nat.reduceLeDiff]
  · simp only [go_sem, Nat.reduceEqDiff, Nat.reduceAdd, Nat.reduceLeDiff]

theorem a67 (H : Has la0 env) {xs : List PV} {k : Nat} {a b : List PV} {n : Int} (ha : ∀ σ, a.mapM (fz σ 11) = some a) (hb : ∀ σ, b.mapM (fz σ 11) = some b) (h : AV env 85 [.sl xs, .fn k a b] = some (.sc (.int .i64 n))) :
    AV env 67 [.sl xs, .fn k a b] = some (.sc (.bool (decide (n ≥ 0)))) := by
  refine AV_wp (H (67, d67) (by simp [la0])) rfl ?_
  (repeat' first
    | refine w_seq ?_
    | refine w_rg ?_
    | refine wo_nil ?_
    | refine s_plain (by simp only [go_sem, Nat.reduceEqDiff, Nat.reduceAdd, Nat.reduceLeDiff, h, ha, hb]; first | done | rfl) ?_
    | refine s_void (by simp only [go_sem, Nat.reduceEqDiff, Nat.reduceAdd, Nat.reduceLeDiff, h, ha, hb]; first | done | rfl) ?_
    | refine s_guard (by simp only [go_sem, Nat.reduceEqDiff, Nat.reduceAdd, Nat.reduceLeDiff, h, ha, hb]; first | done | rfl) ?_
    | refine g_skU ?_
    | refine g_T (by intro hb; simp only [go_sem, Nat.reduceEqDiff, Nat.reduceAdd, Nat.reduceLeDiff, h, ha, hb, hb]; first | done | rfl) ?_
    | refine g_F (by intro hb; simp only [go_sem, Nat.reduceEqDiff, Nat.reduceAdd, Nat.reduceLeDiff, h, ha, hb, hb]; first | done | rfl) ?_
    | refine g_gT (by intro hb hc; simp only [go_sem, Nat.reduceEqDiff, Nat.reduceAdd, Nat.reduceLeDiff, h, ha, hb, hb, hc]; first | done | rfl) ?_
    | refine g_gF (by intro hb hc; simp only [go_sem, Nat.reduceEqDiff, Nat.reduceAdd, Nat.reduceLeDiff, h, ha, hb, hb, hc]; first | done | rfl) ?_
    | refine g_skT ?_
    | refine g_skF ?_
    | refine g_goT (by simp only [go_sem, Nat.reduceEqDiff, Nat.reduceAdd, Nat.reduceLeDiff, h, ha, hb]; first | done | rfl) ?_
    | refine g_goF (by simp only [go_sem, Nat.reduceEqDiff, Nat.reduceAdd, Nat.reduceLeDiff, h, ha, hb]; first | done | rfl) ?_
    | refine w_condT (by simp only [go_sem, Nat.reduceEqDiff, Nat.reduceAdd, Nat.reduceLeDiff, h, ha, hb]; first | done | rfl) ?_
    | refine w_condF (by simp only [go_sem, Nat.reduceEqDiff, Nat.reduceAdd, Nat.reduceLeDiff, h, ha, hb]; first | done | rfl) ?_
    | refine w_skip ?_
    | refine w_exit ?_
    | refine w_ret ?_
    )
  exact ⟨.inr rfl, by simp only [go_sem, Nat.reduceEqDiff, Nat.reduceAdd, Nat.reduceLeDiff, retOf, resOf]⟩

/-- A byte of a text. -/
def byteAt (s : ByteArray) (i : Nat) : Int := match s.data.toList[i]? with | some u => (u.toNat : Int) | none => 0

theorem bytes_get {s : ByteArray} {i : Nat} {e : PV} (h : (bytesPV s)[i]? = some e) : e = .sc (.int .u8 (byteAt s i)) := by
  unfold bytesPV at h
  rw [List.getElem?_map] at h
  obtain ⟨u, hu, rfl⟩ := Option.map_eq_some_iff.1 h
  unfold byteAt
  rw [hu]

theorem bytes_len (s : ByteArray) : (bytesPV s).length = s.size := by simp [bytesPV]

theorem a85b (H : Has la0 env) {s : ByteArray} {k : Nat} {q : Int → Bool} (hn : s.size ≤ 9223372036854775807) (hp : ∀ c, AV env k [.sc (.int .u8 c)] = some (.sc (.bool (q c)))) :
    AV env 85 [.sl (bytesPV s), .fn k [] []] = some (.sc (.int .i64 (found (fun i => q (byteAt s i)) s.size))) := by
  have := a85g (H (85, d85) (by simp [la0])) (xs := bytesPV s) (k := k) (a := []) (b := []) (p := fun i => q (byteAt s i)) (by rw [bytes_len]; exact hn) (fun i e h => by rw [bytes_get h]; rfl) (fun i e h σ => by
    rw [bytes_get h]; rfl) (fun i e h => by rw [bytes_get h]; exact hp _)
  rwa [bytes_len] at this

theorem a67b (H : Has la0 env) {s : ByteArray} {k : Nat} {q : Int → Bool} (hn : s.size ≤ 9223372036854775807) (hp : ∀ c, AV env k [.sc (.int .u8 c)] = some (.sc (.bool (q c)))) :
    AV env 67 [.sl (bytesPV s), .fn k [] []] = some (.sc (.bool (decide (found (fun i => q (byteAt s i)) s.size ≥ 0)))) :=
  a67 H (fun _ => rfl) (fun _ => rfl) (a85b H hn hp)

def oddW (c : Int) : Bool := (decide (c < 97) || decide (c > 122)) && (decide (c < 48) || decide (c > 57)) && (c != 95)
def hasB (q : Int → Bool) (s : ByteArray) : Bool := decide (found (fun i => q (byteAt s i)) s.size ≥ 0)
def wordB (s : ByteArray) : Bool := !(s.toList == (⟨#[]⟩ : ByteArray).toList) && decide ((s.size : Int) ≤ 64) && !hasB oddW s

theorem a49 (H : Has la env) {s : ByteArray} (hn : s.size ≤ 9223372036854775807) : AV env 49 [.sc (.string s)] = some (.sc (.bool (wordB s))) := by
  have h1 := a67b (la_la0 H) (k := 66) hn (a66 H)
  refine AV_wp (H (49, d49) (by simp [la])) rfl ?_
  (repeat' first
    | refine w_seq ?_
    | refine w_rg ?_
    | refine wo_nil ?_
    | refine s_plain (by simp only [go_sem, Nat.reduceEqDiff, Nat.reduceAdd, Nat.reduceLeDiff, h1]; first | done | rfl) ?_
    | refine s_void (by simp only [go_sem, Nat.reduceEqDiff, Nat.reduceAdd, Nat.reduceLeDiff, h1]; first | done | rfl) ?_
    | refine s_guard (by simp only [go_sem, Nat.reduceEqDiff, Nat.reduceAdd, Nat.reduceLeDiff, h1]; first | done | rfl) ?_
    | refine g_skU ?_
    | refine g_T (by intro hb; simp only [go_sem, Nat.reduceEqDiff, Nat.reduceAdd, Nat.reduceLeDiff, h1, hb]; first | done | rfl) ?_
    | refine g_F (by intro hb; simp only [go_sem, Nat.reduceEqDiff, Nat.reduceAdd, Nat.reduceLeDiff, h1, hb]; first | done | rfl) ?_
    | refine g_gT (by intro hb hc; simp only [go_sem, Nat.reduceEqDiff, Nat.reduceAdd, Nat.reduceLeDiff, h1, hb, hc]; first | done | rfl) ?_
    | refine g_gF (by intro hb hc; simp only [go_sem, Nat.reduceEqDiff, Nat.reduceAdd, Nat.reduceLeDiff, h1, hb, hc]; first | done | rfl) ?_
    | refine g_skT ?_
    | refine g_skF ?_
    | refine g_goT (by simp only [go_sem, Nat.reduceEqDiff, Nat.reduceAdd, Nat.reduceLeDiff, h1]; first | done | rfl) ?_
    | refine g_goF (by simp only [go_sem, Nat.reduceEqDiff, Nat.reduceAdd, Nat.reduceLeDiff, h1]; first | done | rfl) ?_
    | refine w_condT (by simp only [go_sem, Nat.reduceEqDiff, Nat.reduceAdd, Nat.reduceLeDiff, h1]; first | done | rfl) ?_
    | refine w_condF (by simp only [go_sem, Nat.reduceEqDiff, Nat.reduceAdd, Nat.reduceLeDiff, h1]; first | done | rfl) ?_
    | refine w_skip ?_
    | refine w_exit ?_
    | refine w_ret ?_
    )
  exact ⟨.inr rfl, by simp only [go_sem, Nat.reduceEqDiff, Nat.reduceAdd, Nat.reduceLeDiff, retOf, resOf]; rfl⟩

end
end Go.Proofs.YtjijlmfhnkipmaaDoorPv
