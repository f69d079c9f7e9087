/-
Own texts of the proof, merged: part 1.
-/
import Derived.Test.YtcpgkdaicglogaaGreatDoorPvY
import Derived.Lib.Bytealg
import Derived.Test.YtcpgkdaicglogaaGreatDoorPvP
namespace Go.Proofs.YtcpgkdaicglogaaGreatDoorPv
open Go
set_option linter.unusedSimpArgs false
set_option linter.unusedVariables false
set_option maxHeartbeats 4000000
set_option maxRecDepth 8000
section
attribute [local go_sem ↓] e_mv e_pick e_bin e_eqs e_beq e_un e_cvi e_str e_s2b e_b2s e_box e_build e_bsl e_ld e_st e_nck e_mkf e_slcS e_slcL e_fa e_fld e_ia e_iaa e_ix e_ixa e_ext e_lenS e_lenL e_mnmx e_app e_appb e_bbx e_msl e_clr e_call e_callv e_icall e_slcA e_mkm e_mput e_mget e_mlen e_mdel pa_t pa_c pa_f slcSP_str hiOf_some hiOf_none loOf_some loOf_none set_eq set_ne
attribute [local go_sem] pv pv1 simple frOf_0 frOf_1 frOf_2 frOf_3 frOf_4 frOf_5 ne_eq not_false_eq_true if_true Bool.false_eq_true if_false pbin punary Option.map_some Option.bind_some pick_and pick_or opt_true Bool.true_and Bool.and_self Bool.and_true Bool.true_or Bool.false_or Bool.not_true Bool.not_false callE pcall_eq List.map_cons List.map_nil List.append_nil List.nil_append List.cons_append mapM_cons' mapM_nil' dep_eq fz_sc fz_sl fz_em fz_fn fz_fp fz_agg fz_tu fz_bx fz_ob Nat.lt_irrefl Nat.zero_lt_one Nat.lt_add_one flat clL cl Bool.or_true okc_sc okc_em okc_sl okc_ob okc_bx okc_fp okc_fn okc_agg okc_ifc cells_agg cells_sc cells_sl cells_em cells_ob cells_fn cells_bx cells_fp List.length_cons List.length_nil Nat.zero_add and_self true_and and_true new_m new_c put_m put_c nil_m nil_c nil_mm new_mm put_mm newM_m newM_c newM_mm putM_m putM_c putM_mm mkeyV_1 mkeyV_2 mapAt_eq deref List.getElem?_cons_zero List.getElem?_cons_succ List.drop_zero List.drop_succ_cons List.take_succ_cons List.take_zero Nat.le_refl false_and and_false decide_true decide_false lenP_em lenP_nil lenP_sl lenP_ob Int.ofNat_zero
def d85 : Def := (.code 2 [.tmp 4] (.seq (.rg false [⟨.some 4, .none, .mv (.c (.int .i64 0))⟩]) (.seq (.seq (.rg false [⟨.some 6, .none, .mv (.t 0)⟩, ⟨.some 7, .none, .lenL (.t 6)⟩, ⟨.some 8, .none, .mv (.c (.int .i64 0))⟩]) (.block 0 (.loop (.seq (.rg false [⟨.some 9, .none, .bin .lss (.t 8) (.t 7)⟩]) (.seq (.cond (.t 9) .skip (.exit 0)) (.seq (.block 1 (.seq (.rg false [⟨.some 10, .none, .mv (.t 8)⟩, ⟨.some 5, .none, .mv (.t 10)⟩]) (.seq (.rg false [⟨.some 11, .none, .mv (.t 1)⟩, ⟨.some 12, .none, .mv (.t 0)⟩, ⟨.some 13, .none, .mv (.t 5)⟩, ⟨.some 14, .none, .ia 1 (.t 12) (.t 13)⟩, ⟨.some 15, .none, .ld .none (.t 14)⟩, ⟨.some 16, .none, .callv (.t 11) .pure [.t 15]⟩]) (.cond (.t 16) (.seq (.rg false [⟨.some 17, .none, .mv (.t 5)⟩, ⟨.some 4, .none, .mv (.t 17)⟩]) .ret) .skip)))) (.rg false [⟨.some 18, .none, .bin .add (.t 8) (.c (.int .i64 1))⟩, ⟨.some 8, .none, .mv (.t 18)⟩]))))))) (.seq (.rg false [⟨.some 4, .none, .mv (.c (.int .i64 (-1)))⟩]) .ret))))
def d67 : Def := (.code 2 [.tmp 4] (.seq (.rg false [⟨.some 4, .none, .mv (.c (.bool false))⟩]) (.seq (.rg false [⟨.some 5, .none, .mv (.t 0)⟩, ⟨.some 6, .none, .mv (.t 1)⟩, ⟨.some 7, .none, .call 85 .pure [.t 5, .t 6]⟩, ⟨.some 8, .none, .bin .geq (.t 7) (.c (.int .i64 0))⟩, ⟨.some 4, .none, .mv (.t 8)⟩]) .ret)))
def d66 : Def := (.code 1 [.tmp 2] (.seq (.rg false [⟨.some 2, .none, .mv (.c (.bool false))⟩]) (.seq (.rg false [⟨.some 3, .none, .mv (.t 0)⟩, ⟨.some 4, .none, .bin .lss (.t 3) (.c (.int .u8 97))⟩, ⟨.some 5, .none, .mv (.t 4)⟩, ⟨.some 6, .some (5, false), .mv (.t 0)⟩, ⟨.some 7, .some (5, false), .bin .gtr (.t 6) (.c (.int .u8 122))⟩, ⟨.some 8, .none, .pick (.t 5) (.c (.bool true)) (.t 7)⟩, ⟨.some 9, .none, .mv (.t 8)⟩, ⟨.some 10, .some (9, true), .mv (.t 0)⟩, ⟨.some 11, .some (9, true), .bin .lss (.t 10) (.c (.int .u8 48))⟩, ⟨.some 12, .some (9, true), .mv (.t 11)⟩, ⟨.some 13, .some (12, false), .mv (.t 0)⟩, ⟨.some 14, .some (12, false), .bin .gtr (.t 13) (.c (.int .u8 57))⟩, ⟨.some 15, .some (9, true), .pick (.t 12) (.c (.bool true)) (.t 14)⟩, ⟨.some 16, .none, .pick (.t 9) (.t 15) (.c (.bool false))⟩, ⟨.some 17, .none, .mv (.t 16)⟩, ⟨.some 18, .some (17, true), .mv (.t 0)⟩, ⟨.some 19, .some (17, true), .bin .neq (.t 18) (.c (.int .u8 95))⟩, ⟨.some 20, .none, .pick (.t 17) (.t 19) (.c (.bool false))⟩, ⟨.some 2, .none, .mv (.t 20)⟩]) .ret)))
def d49 : Def := (.code 1 [.tmp 2] (.seq (.rg false [⟨.some 2, .none, .mv (.c (.bool false))⟩]) (.seq (.rg false [⟨.some 3, .none, .mv (.f 66)⟩]) (.seq (.rg false [⟨.some 4, .none, .mv (.t 0)⟩, ⟨.some 5, .none, .bin .neq (.t 4) (.c (.string ⟨#[]⟩))⟩, ⟨.some 6, .none, .mv (.t 5)⟩, ⟨.some 7, .some (6, true), .mv (.t 0)⟩, ⟨.some 8, .some (6, true), .lenS (.t 7)⟩, ⟨.some 9, .some (6, true), .bin .leq (.t 8) (.c (.int .i64 64))⟩, ⟨.some 10, .none, .pick (.t 6) (.t 9) (.c (.bool false))⟩, ⟨.some 11, .none, .mv (.t 10)⟩, ⟨.some 12, .some (11, true), .mv (.t 0)⟩, ⟨.some 13, .some (11, true), .s2b (.t 12)⟩, ⟨.some 14, .some (11, true), .mv (.t 3)⟩, ⟨.some 15, .some (11, true), .call 67 .pure [.t 13, .t 14]⟩, ⟨.some 16, .some (11, true), .un .not (.t 15)⟩, ⟨.some 17, .none, .pick (.t 11) (.t 16) (.c (.bool false))⟩, ⟨.some 2, .none, .mv (.t 17)⟩]) .ret))))
def d138 : Def := (.code 1 [.tmp 2] (.seq (.rg false [⟨.some 2, .none, .mv (.c (.bool false))⟩]) (.seq (.rg false [⟨.some 3, .none, .mv (.t 0)⟩, ⟨.some 4, .none, .bin .geq (.t 3) (.c (.int .u8 97))⟩, ⟨.some 5, .none, .mv (.t 4)⟩, ⟨.some 6, .some (5, true), .mv (.t 0)⟩, ⟨.some 7, .some (5, true), .bin .leq (.t 6) (.c (.int .u8 122))⟩, ⟨.some 8, .none, .pick (.t 5) (.t 7) (.c (.bool false))⟩, ⟨.some 9, .none, .mv (.t 8)⟩, ⟨.some 10, .some (9, false), .mv (.t 0)⟩, ⟨.some 11, .some (9, false), .bin .geq (.t 10) (.c (.int .u8 65))⟩, ⟨.some 12, .some (9, false), .mv (.t 11)⟩, ⟨.some 13, .some (12, true), .mv (.t 0)⟩, ⟨.some 14, .some (12, true), .bin .leq (.t 13) (.c (.int .u8 90))⟩, ⟨.some 15, .some (9, false), .pick (.t 12) (.t 14) (.c (.bool false))⟩, ⟨.some 16, .none, .pick (.t 9) (.c (.bool true)) (.t 15)⟩, ⟨.some 17, .none, .mv (.t 16)⟩, ⟨.some 18, .some (17, false), .mv (.t 0)⟩, ⟨.some 19, .some (17, false), .bin .eql (.t 18) (.c (.int .u8 95))⟩, ⟨.some 20, .none, .pick (.t 17) (.c (.bool true)) (.t 19)⟩, ⟨.some 2, .none, .mv (.t 20)⟩]) .ret)))
def d139 : Def := (.code 1 [.tmp 2] (.seq (.rg false [⟨.some 2, .none, .mv (.c (.bool false))⟩]) (.seq (.rg false [⟨.some 3, .none, .mv (.t 0)⟩, ⟨.some 4, .none, .bin .lss (.t 3) (.c (.int .u8 32))⟩, ⟨.some 5, .none, .mv (.t 4)⟩, ⟨.some 6, .some (5, false), .mv (.t 0)⟩, ⟨.some 7, .some (5, false), .bin .gtr (.t 6) (.c (.int .u8 126))⟩, ⟨.some 8, .none, .pick (.t 5) (.c (.bool true)) (.t 7)⟩, ⟨.some 2, .none, .mv (.t 8)⟩]) .ret)))
def d130 : Def := (.code 1 [.tmp 2] (.seq (.rg false [⟨.some 2, .none, .mv (.c (.bool false))⟩]) (.seq (.seq (.rg false [⟨.some 5, .none, .mv (.t 0)⟩, ⟨.some 6, .none, .lenS (.t 5)⟩, ⟨.some 7, .none, .mv (.c (.int .i64 0))⟩]) (.block 0 (.loop (.seq (.rg false [⟨.some 8, .none, .bin .lss (.t 7) (.t 6)⟩]) (.seq (.cond (.t 8) .skip (.exit 0)) (.seq (.block 1 (.seq (.rg false [⟨.some 9, .none, .mv (.t 7)⟩, ⟨.some 3, .none, .mv (.t 9)⟩]) (.seq (.rg false [⟨.some 10, .none, .mv (.t 0)⟩, ⟨.some 11, .none, .mv (.t 3)⟩, ⟨.some 12, .none, .ix (.t 10) (.t 11)⟩, ⟨.some 4, .none, .mv (.t 12)⟩]) (.seq (.rg false [⟨.some 13, .none, .mv (.t 4)⟩, ⟨.some 14, .none, .call 138 .pure [.t 13]⟩, ⟨.some 15, .none, .un .not (.t 14)⟩, ⟨.some 16, .none, .mv (.t 15)⟩, ⟨.some 17, .some (16, true), .mv (.t 3)⟩, ⟨.some 18, .some (16, true), .bin .eql (.t 17) (.c (.int .i64 0))⟩, ⟨.some 19, .some (16, true), .mv (.t 18)⟩, ⟨.some 20, .some (19, false), .mv (.t 4)⟩, ⟨.some 21, .some (19, false), .bin .lss (.t 20) (.c (.int .u8 48))⟩, ⟨.some 22, .some (16, true), .pick (.t 19) (.c (.bool true)) (.t 21)⟩, ⟨.some 23, .some (16, true), .mv (.t 22)⟩, ⟨.some 24, .some (23, false), .mv (.t 4)⟩, ⟨.some 25, .some (23, false), .bin .gtr (.t 24) (.c (.int .u8 57))⟩, ⟨.some 26, .some (16, true), .pick (.t 23) (.c (.bool true)) (.t 25)⟩, ⟨.some 27, .none, .pick (.t 16) (.t 26) (.c (.bool false))⟩]) (.cond (.t 27) (.seq (.rg false [⟨.some 2, .none, .mv (.c (.bool false))⟩]) .ret) .skip))))) (.rg false [⟨.some 28, .none, .bin .add (.t 7) (.c (.int .i64 1))⟩, ⟨.some 7, .none, .mv (.t 28)⟩]))))))) (.seq (.rg false [⟨.some 29, .none, .mv (.t 0)⟩, ⟨.some 30, .none, .bin .neq (.t 29) (.c (.string ⟨#[]⟩))⟩, ⟨.some 31, .none, .mv (.t 30)⟩, ⟨.some 32, .some (31, true), .mv (.t 0)⟩, ⟨.some 33, .some (31, true), .lenS (.t 32)⟩, ⟨.some 34, .some (31, true), .bin .leq (.t 33) (.c (.int .i64 64))⟩, ⟨.some 35, .none, .pick (.t 31) (.t 34) (.c (.bool false))⟩, ⟨.some 2, .none, .mv (.t 35)⟩]) .ret))))
def d131 : Def := (.code 1 [.tmp 2] (.seq (.rg false [⟨.some 2, .none, .mv (.c (.bool false))⟩]) (.seq (.rg false [⟨.some 3, .none, .mv (.t 0)⟩, ⟨.some 4, .none, .bin .neq (.t 3) (.c (.string ⟨#[]⟩))⟩, ⟨.some 5, .none, .mv (.t 4)⟩, ⟨.some 6, .some (5, true), .mv (.t 0)⟩, ⟨.some 7, .some (5, true), .lenS (.t 6)⟩, ⟨.some 8, .some (5, true), .bin .leq (.t 7) (.c (.int .i64 64))⟩, ⟨.some 9, .none, .pick (.t 5) (.t 8) (.c (.bool false))⟩, ⟨.some 10, .none, .mv (.t 9)⟩, ⟨.some 11, .some (10, true), .mv (.t 0)⟩, ⟨.some 12, .some (10, true), .s2b (.t 11)⟩, ⟨.some 13, .some (10, true), .call 67 .pure [.t 12, .f 139]⟩, ⟨.some 14, .some (10, true), .un .not (.t 13)⟩, ⟨.some 15, .none, .pick (.t 10) (.t 14) (.c (.bool false))⟩, ⟨.some 2, .none, .mv (.t 15)⟩]) .ret)))
def d112 : Def := (.code 1 [.tmp 2] (.seq (.rg false [⟨.some 2, .none, .mv (.c (.bool false))⟩]) (.seq (.rg false [⟨.some 3, .none, .mv (.t 0)⟩, ⟨.some 4, .none, .bin .geq (.t 3) (.c (.int .i64 0))⟩, ⟨.some 5, .none, .mv (.t 4)⟩, ⟨.some 6, .some (5, true), .mv (.t 0)⟩, ⟨.some 7, .some (5, true), .bin .leq (.t 6) (.c (.int .i64 1099511627776))⟩, ⟨.some 8, .none, .pick (.t 5) (.t 7) (.c (.bool false))⟩, ⟨.some 2, .none, .mv (.t 8)⟩]) .ret)))
def la : List (Nat × Def) := [(85, d85), (67, d67), (66, d66), (49, d49), (138, d138), (139, d139), (130, d130), (131, d131), (112, d112)]
def la0 : List (Nat × Def) := [(85, d85), (67, d67), (138, d138), (139, d139), (130, d130), (131, d131)]
def law : List (Nat × Def) := [(85, d85), (67, d67), (66, d66), (49, d49)]
def lax : List (Nat × Def) := [(85, d85), (67, d67)]
def Has (l : List (Nat × Def)) (env : Nat → Option Def) : Prop := ∀ p ∈ l, env p.1 = some p.2
section
variable {env : Nat → Option Def} {fr : Fr} {σ : St} {K : Fr → St → Prop}
theorem la_la0 (H : Has la env) : Has la0 env := fun p hp => H p (by
  simp only [la0, List.mem_cons, List.mem_nil_iff, or_false] at hp
  rcases hp with rfl | rfl | rfl | rfl | rfl | rfl <;> simp [la])
theorem la_law (H : Has la env) : Has law env := fun p hp => H p (by
  simp only [law, List.mem_cons, List.mem_nil_iff, or_false] at hp
  rcases hp with rfl | rfl | rfl | rfl <;> simp [la])
theorem law_lax (H : Has law env) : Has lax env := fun p hp => H p (by
  simp only [lax, List.mem_cons, List.mem_nil_iff, or_false] at hp
  rcases hp with rfl | rfl <;> simp [law])
theorem la0_lax (H : Has la0 env) : Has lax env := fun p hp => H p (by
  simp only [lax, List.mem_cons, List.mem_nil_iff, or_false] at hp
  rcases hp with rfl | rfl <;> simp [la0])
theorem a112 (H : Has la env) (n : Int) : AV env 112 [.sc (.int .i64 n)] = some (.sc (.bool (decide (n ≥ 0) && decide (n ≤ 1099511627776)))) := by
  refine AV_wp (H (112, d112) (by simp [la])) rfl ?_
  (repeat' first
    | refine w_seq ?_ | refine w_rg ?_ | refine wo_nil ?_ | refine g_skU ?_ | refine g_skT ?_ | refine g_skF ?_
    | ((first | apply s_plain | apply s_void | apply s_guard | apply g_goT | apply g_goF); · simp only [go_sem, Nat.reduceEqDiff, Nat.reduceAdd, Nat.reduceLeDiff]; (first | done | rfl))
    | ((first | apply g_T | apply g_F | apply g_gT | apply g_gF); · intro q1_; (first | intro q2_ | have q2_ := q1_); simp only [go_sem, Nat.reduceEqDiff, Nat.reduceAdd, Nat.reduceLeDiff, q1_, q2_]; (first | done | rfl))
    | (apply w_condX; · simp only [go_sem, Nat.reduceEqDiff, Nat.reduceAdd, Nat.reduceLeDiff]; (first | done | rfl)); (first | refine wcd_T ?_ | refine wcd_F ?_)
    | refine w_skip ?_ | refine w_exit ?_ | refine w_ret ?_
    | fail
    )
  exact ⟨.inr rfl, by simp only [go_sem, Nat.reduceEqDiff, Nat.reduceAdd, Nat.reduceLeDiff, retOf, resOf]⟩
theorem a66 (H : Has law env) (c : Int) : AV env 66 [.sc (.int .u8 c)] = some (.sc (.bool ((decide (c < 97) || decide (c > 122)) && (decide (c < 48) || decide (c > 57)) && (c != 95)))) := by
  refine AV_wp (H (66, d66) (by simp [law])) rfl ?_
  (repeat' first
    | refine w_seq ?_ | refine w_rg ?_ | refine wo_nil ?_ | refine g_skU ?_ | refine g_skT ?_ | refine g_skF ?_
    | ((first | apply s_plain | apply s_void | apply s_guard | apply g_goT | apply g_goF); · simp only [go_sem, Nat.reduceEqDiff, Nat.reduceAdd, Nat.reduceLeDiff]; (first | done | rfl))
    | ((first | apply g_T | apply g_F | apply g_gT | apply g_gF); · intro q1_; (first | intro q2_ | have q2_ := q1_); simp only [go_sem, Nat.reduceEqDiff, Nat.reduceAdd, Nat.reduceLeDiff, q1_, q2_]; (first | done | rfl))
    | (apply w_condX; · simp only [go_sem, Nat.reduceEqDiff, Nat.reduceAdd, Nat.reduceLeDiff]; (first | done | rfl)); (first | refine wcd_T ?_ | refine wcd_F ?_)
    | refine w_skip ?_ | refine w_exit ?_ | refine w_ret ?_
    | fail
    )
  exact ⟨.inr rfl, by simp only [go_sem, Nat.reduceEqDiff, Nat.reduceAdd, Nat.reduceLeDiff, retOf, resOf]⟩
theorem a138 (H : Has la0 env) (c : Int) : AV env 138 [.sc (.int .u8 c)] = some (.sc (.bool ((decide (c ≥ 97) && decide (c ≤ 122)) || (decide (c ≥ 65) && decide (c ≤ 90)) || (c == 95)))) := by
  refine AV_wp (H (138, d138) (by simp [la0])) rfl ?_
  (repeat' first
    | refine w_seq ?_ | refine w_rg ?_ | refine wo_nil ?_ | refine g_skU ?_ | refine g_skT ?_ | refine g_skF ?_
    | ((first | apply s_plain | apply s_void | apply s_guard | apply g_goT | apply g_goF); · simp only [go_sem, Nat.reduceEqDiff, Nat.reduceAdd, Nat.reduceLeDiff]; (first | done | rfl))
    | ((first | apply g_T | apply g_F | apply g_gT | apply g_gF); · intro q1_; (first | intro q2_ | have q2_ := q1_); simp only [go_sem, Nat.reduceEqDiff, Nat.reduceAdd, Nat.reduceLeDiff, q1_, q2_]; (first | done | rfl))
    | (apply w_condX; · simp only [go_sem, Nat.reduceEqDiff, Nat.reduceAdd, Nat.reduceLeDiff]; (first | done | rfl)); (first | refine wcd_T ?_ | refine wcd_F ?_)
    | refine w_skip ?_ | refine w_exit ?_ | refine w_ret ?_
    | fail
    )
  exact ⟨.inr rfl, by simp only [go_sem, Nat.reduceEqDiff, Nat.reduceAdd, Nat.reduceLeDiff, retOf, resOf]⟩
theorem a139 (H : Has la0 env) (c : Int) : AV env 139 [.sc (.int .u8 c)] = some (.sc (.bool (decide (c < 32) || decide (c > 126)))) := by
  refine AV_wp (H (139, d139) (by simp [la0])) rfl ?_
  (repeat' first
    | refine w_seq ?_ | refine w_rg ?_ | refine wo_nil ?_ | refine g_skU ?_ | refine g_skT ?_ | refine g_skF ?_
    | ((first | apply s_plain | apply s_void | apply s_guard | apply g_goT | apply g_goF); · simp only [go_sem, Nat.reduceEqDiff, Nat.reduceAdd, Nat.reduceLeDiff]; (first | done | rfl))
    | ((first | apply g_T | apply g_F | apply g_gT | apply g_gF); · intro q1_; (first | intro q2_ | have q2_ := q1_); simp only [go_sem, Nat.reduceEqDiff, Nat.reduceAdd, Nat.reduceLeDiff, q1_, q2_]; (first | done | rfl))
    | (apply w_condX; · simp only [go_sem, Nat.reduceEqDiff, Nat.reduceAdd, Nat.reduceLeDiff]; (first | done | rfl)); (first | refine wcd_T ?_ | refine wcd_F ?_)
    | refine w_skip ?_ | refine w_exit ?_ | refine w_ret ?_
    | fail
    )
  exact ⟨.inr rfl, by simp only [go_sem, Nat.reduceEqDiff, Nat.reduceAdd, Nat.reduceLeDiff, retOf, resOf]⟩
def found (p : Nat → Bool) (n : Nat) : Int := match (List.range n).find? p with | some i => i | none => -1
theorem found_hit {p : Nat → Bool} {n i : Nat} (hi : i < n) (h : ∀ j, j < i → p j = false) (hp : p i = true) : found p n = i := by
  unfold found
  have : (List.range n).find? p = some i := by
    rw [List.find?_range_eq_some]
    exact ⟨hp, by simpa using hi, fun j hj => by simpa using h j hj⟩
  rw [this]
theorem found_none {p : Nat → Bool} {n : Nat} (h : ∀ j, j < n → p j = false) : found p n = -1 := by
  unfold found
  have : (List.range n).find? p = none := by
    rw [List.find?_range_eq_none]
    exact fun j hj => by simpa using h j hj
  rw [this]
theorem a85g {k0 : Nat} (hk0 : env k0 = some d85) {xs : List PV} {k : Nat} {a b : List PV} {p : Nat → Bool} (hn : xs.length ≤ 9223372036854775807) (h1 : ∀ (i : Nat) e, xs[i]? = some e → cellsOf e = [e])
    (hz : ∀ (i : Nat) e, xs[i]? = some e → ∀ σ, (a ++ [e] ++ b).mapM (fz σ 12) = some (a ++ [e] ++ b)) (hp : ∀ (i : Nat) e, xs[i]? = some e → AV env k (a ++ [e] ++ b) = some (.sc (.bool (p i)))) :
    AV env k0 [.sl xs, .fn k a b] = some (.sc (.int .i64 (found p xs.length))) := by
  refine AV_wp hk0 rfl ?_
  (repeat' first
    | refine w_seq ?_ | refine w_rg ?_ | refine wo_nil ?_ | refine g_skU ?_ | refine g_skT ?_ | refine g_skF ?_
    | ((first | apply s_plain | apply s_void | apply s_guard | apply g_goT | apply g_goF); · simp only [go_sem, Nat.reduceEqDiff, Nat.reduceAdd, Nat.reduceLeDiff]; (first | done | rfl))
    | ((first | apply g_T | apply g_F | apply g_gT | apply g_gF); · intro q1_; (first | intro q2_ | have q2_ := q1_); simp only [go_sem, Nat.reduceEqDiff, Nat.reduceAdd, Nat.reduceLeDiff, q1_, q2_]; (first | done | rfl))
    | fail
    )
  refine w_block (w_range xs.length hn (fun i fr σ => fr 0 = .sl xs ∧ fr 1 = .fn k a b ∧ ∀ j, j < i → p j = false) (by decide) ?_ ?_ ?_ _ _ ?_ ?_ ?_)
  · rintro i fr σ v ⟨h0, h1, h2⟩
    refine ⟨⟨?_, ?_, h2⟩, ⟨?_, ?_, h2⟩, ⟨?_, ?_, h2⟩⟩ <;> simp only [go_sem, Nat.reduceEqDiff, Nat.reduceAdd, Nat.reduceLeDiff, h0, h1]
  · rintro i fr σ hi ⟨h0, h2, h3⟩ hti htn
    have hx := List.getElem?_eq_getElem hi
    have e1 : (0 : Int) ≤ (i : Int) ∧ (i : Int) < (xs.length : Int) := by omega
    refine w_block ?_
    have hz' := hz i _ hx
    have hp' := hp i _ hx
    simp only [List.append_assoc, List.cons_append, List.nil_append] at hz' hp'
    (repeat' first
    | refine w_seq ?_ | refine w_rg ?_ | refine wo_nil ?_ | refine g_skU ?_ | refine g_skT ?_ | refine g_skF ?_
    | ((first | apply s_plain | apply s_void | apply s_guard | apply g_goT | apply g_goF); · simp only [go_sem, Nat.reduceEqDiff, Nat.reduceAdd, Nat.reduceLeDiff, h0, h2, hti, e1, Int.toNat_natCast, hx, h1 i _ hx, List.append_assoc, hz', hp']; (first | done | rfl))
    | ((first | apply g_T | apply g_F | apply g_gT | apply g_gF); · intro q1_; (first | intro q2_ | have q2_ := q1_); simp only [go_sem, Nat.reduceEqDiff, Nat.reduceAdd, Nat.reduceLeDiff, h0, h2, hti, e1, Int.toNat_natCast, hx, h1 i _ hx, List.append_assoc, hz', hp', q1_, q2_]; (first | done | rfl))
    | fail
    )
    cases hpi : p i with
    | true =>
      (repeat' first
    | refine w_seq ?_ | refine w_rg ?_ | refine wo_nil ?_ | refine g_skU ?_ | refine g_skT ?_ | refine g_skF ?_
    | ((first | apply s_plain | apply s_void | apply s_guard | apply g_goT | apply g_goF); · simp only [go_sem, Nat.reduceEqDiff, Nat.reduceAdd, Nat.reduceLeDiff]; (first | done | rfl))
    | ((first | apply g_T | apply g_F | apply g_gT | apply g_gF); · intro q1_; (first | intro q2_ | have q2_ := q1_); simp only [go_sem, Nat.reduceEqDiff, Nat.reduceAdd, Nat.reduceLeDiff, q1_, q2_]; (first | done | rfl))
    | (apply w_condX; · simp only [go_sem, Nat.reduceEqDiff, Nat.reduceAdd, Nat.reduceLeDiff]; (first | done | rfl)); (first | refine wcd_T ?_ | refine wcd_F ?_)
    | refine w_skip ?_ | refine w_exit ?_ | refine w_ret ?_
    | fail
    )
      exact ⟨.inr rfl, by simp only [go_sem, Nat.reduceEqDiff, Nat.reduceAdd, Nat.reduceLeDiff, retOf, resOf, found_hit hi h3 hpi]⟩
    | false =>
      (repeat' first
    | refine w_seq ?_ | refine w_rg ?_ | refine wo_nil ?_ | refine g_skU ?_ | refine g_skT ?_ | refine g_skF ?_
    | ((first | apply s_plain | apply s_void | apply s_guard | apply g_goT | apply g_goF); · simp only [go_sem, Nat.reduceEqDiff, Nat.reduceAdd, Nat.reduceLeDiff]; (first | done | rfl))
    | ((first | apply g_T | apply g_F | apply g_gT | apply g_gF); · intro q1_; (first | intro q2_ | have q2_ := q1_); simp only [go_sem, Nat.reduceEqDiff, Nat.reduceAdd, Nat.reduceLeDiff, q1_, q2_]; (first | done | rfl))
    | (apply w_condX; · simp only [go_sem, Nat.reduceEqDiff, Nat.reduceAdd, Nat.reduceLeDiff]; (first | done | rfl)); (first | refine wcd_T ?_ | refine wcd_F ?_)
    | refine w_skip ?_ | refine w_exit ?_ | refine w_ret ?_
    | fail
    )
      refine ⟨⟨?_, ?_, fun j hj => ?_⟩, ?_, ?_⟩
      · simp only [go_sem, Nat.reduceEqDiff, Nat.reduceAdd, Nat.reduceLeDiff, h0]
      · simp only [go_sem, Nat.reduceEqDiff, Nat.reduceAdd, Nat.reduceLeDiff, h2]
      · by_cases hji : j = i
        · rw [hji]; exact hpi
        · exact h3 j (by omega)
      · simp only [go_sem, Nat.reduceEqDiff, Nat.reduceAdd, Nat.reduceLeDiff, hti]
      · simp only [go_sem, Nat.reduceEqDiff, Nat.reduceAdd, Nat.reduceLeDiff, htn]
  · rintro fr σ ⟨h0, h2, h3⟩
    simp only [if_true]
    (repeat' first
    | refine w_seq ?_ | refine w_rg ?_ | refine wo_nil ?_ | refine g_skU ?_ | refine g_skT ?_ | refine g_skF ?_
    | ((first | apply s_plain | apply s_void | apply s_guard | apply g_goT | apply g_goF); · simp only [go_sem, Nat.reduceEqDiff, Nat.reduceAdd, Nat.reduceLeDiff]; (first | done | rfl))
    | ((first | apply g_T | apply g_F | apply g_gT | apply g_gF); · intro q1_; (first | intro q2_ | have q2_ := q1_); simp only [go_sem, Nat.reduceEqDiff, Nat.reduceAdd, Nat.reduceLeDiff, q1_, q2_]; (first | done | rfl))
    | (apply w_condX; · simp only [go_sem, Nat.reduceEqDiff, Nat.reduceAdd, Nat.reduceLeDiff]; (first | done | rfl)); (first | refine wcd_T ?_ | refine wcd_F ?_)
    | refine w_skip ?_ | refine w_exit ?_ | refine w_ret ?_
    | fail
    )
    exact ⟨.inr rfl, by simp only [go_sem, Nat.reduceEqDiff, Nat.reduceAdd, Nat.reduceLeDiff, retOf, resOf, found_none h3]⟩
  · refine ⟨?_, ?_, fun j hj => by omega⟩ <;> simp only [go_sem, Nat.reduceEqDiff, Nat.reduceAdd, Nat.reduceLeDiff]
  · simp only [go_sem, Nat.reduceEqDiff, Nat.reduceAdd, Nat.reduceLeDiff]
  · simp only [go_sem, Nat.reduceEqDiff, Nat.reduceAdd, Nat.reduceLeDiff]
theorem a67 (H : Has lax env) {xs : List PV} {k : Nat} {a b : List PV} {n : Int} (ha : ∀ σ, a.mapM (fz σ 11) = some a) (hb : ∀ σ, b.mapM (fz σ 11) = some b) (h : AV env 85 [.sl xs, .fn k a b] = some (.sc (.int .i64 n))) :
    AV env 67 [.sl xs, .fn k a b] = some (.sc (.bool (decide (n ≥ 0)))) := by
  refine AV_wp (H (67, d67) (by simp [lax])) rfl ?_
  (repeat' first
    | refine w_seq ?_ | refine w_rg ?_ | refine wo_nil ?_ | refine g_skU ?_ | refine g_skT ?_ | refine g_skF ?_
    | ((first | apply s_plain | apply s_void | apply s_guard | apply g_goT | apply g_goF); · simp only [go_sem, Nat.reduceEqDiff, Nat.reduceAdd, Nat.reduceLeDiff, h, ha, hb]; (first | done | rfl))
    | ((first | apply g_T | apply g_F | apply g_gT | apply g_gF); · intro q1_; (first | intro q2_ | have q2_ := q1_); simp only [go_sem, Nat.reduceEqDiff, Nat.reduceAdd, Nat.reduceLeDiff, h, ha, hb, q1_, q2_]; (first | done | rfl))
    | (apply w_condX; · simp only [go_sem, Nat.reduceEqDiff, Nat.reduceAdd, Nat.reduceLeDiff, h, ha, hb]; (first | done | rfl)); (first | refine wcd_T ?_ | refine wcd_F ?_)
    | refine w_skip ?_ | refine w_exit ?_ | refine w_ret ?_
    | fail
    )
  exact ⟨.inr rfl, by simp only [go_sem, Nat.reduceEqDiff, Nat.reduceAdd, Nat.reduceLeDiff, retOf, resOf]⟩
def byteAt (s : ByteArray) (i : Nat) : Int := match s.data.toList[i]? with | some u => (u.toNat : Int) | none => 0
theorem bytes_get {s : ByteArray} {i : Nat} {e : PV} (h : (bytesPV s)[i]? = some e) : e = .sc (.int .u8 (byteAt s i)) := by
  unfold bytesPV at h
  rw [List.getElem?_map] at h
  obtain ⟨u, hu, rfl⟩ := Option.map_eq_some_iff.1 h
  unfold byteAt
  rw [hu]
theorem bytes_len (s : ByteArray) : (bytesPV s).length = s.size := by simp [bytesPV]
theorem a85b (H : Has lax env) {s : ByteArray} {k : Nat} {q : Int → Bool} (hn : s.size ≤ 9223372036854775807) (hp : ∀ c, AV env k [.sc (.int .u8 c)] = some (.sc (.bool (q c)))) :
    AV env 85 [.sl (bytesPV s), .fn k [] []] = some (.sc (.int .i64 (found (fun i => q (byteAt s i)) s.size))) := by
  have := a85g (H (85, d85) (by simp [lax])) (xs := bytesPV s) (k := k) (a := []) (b := []) (p := fun i => q (byteAt s i)) (by rw [bytes_len]; exact hn) (fun i e h => by rw [bytes_get h]; rfl) (fun i e h σ => by
    rw [bytes_get h]; rfl) (fun i e h => by rw [bytes_get h]; exact hp _)
  rwa [bytes_len] at this
theorem a67b (H : Has lax env) {s : ByteArray} {k : Nat} {q : Int → Bool} (hn : s.size ≤ 9223372036854775807) (hp : ∀ c, AV env k [.sc (.int .u8 c)] = some (.sc (.bool (q c)))) :
    AV env 67 [.sl (bytesPV s), .fn k [] []] = some (.sc (.bool (decide (found (fun i => q (byteAt s i)) s.size ≥ 0)))) :=
  a67 H (fun _ => rfl) (fun _ => rfl) (a85b H hn hp)
def oddW (c : Int) : Bool := (decide (c < 97) || decide (c > 122)) && (decide (c < 48) || decide (c > 57)) && (c != 95)
def hasB (q : Int → Bool) (s : ByteArray) : Bool := decide (found (fun i => q (byteAt s i)) s.size ≥ 0)
def wordB (s : ByteArray) : Bool := !(s.toList == (⟨#[]⟩ : ByteArray).toList) && decide ((s.size : Int) ≤ 64) && !hasB oddW s
theorem a49 (H : Has law env) {s : ByteArray} (hn : s.size ≤ 9223372036854775807) : AV env 49 [.sc (.string s)] = some (.sc (.bool (wordB s))) := by
  have h1 := a67b (law_lax H) (k := 66) hn (a66 H)
  refine AV_wp (H (49, d49) (by simp [law])) rfl ?_
  (repeat' first
    | refine w_seq ?_ | refine w_rg ?_ | refine wo_nil ?_ | refine g_skU ?_ | refine g_skT ?_ | refine g_skF ?_
    | ((first | apply s_plain | apply s_void | apply s_guard | apply g_goT | apply g_goF); · simp only [go_sem, Nat.reduceEqDiff, Nat.reduceAdd, Nat.reduceLeDiff, h1]; (first | done | rfl))
    | ((first | apply g_T | apply g_F | apply g_gT | apply g_gF); · intro q1_; (first | intro q2_ | have q2_ := q1_); simp only [go_sem, Nat.reduceEqDiff, Nat.reduceAdd, Nat.reduceLeDiff, h1, q1_, q2_]; (first | done | rfl))
    | (apply w_condX; · simp only [go_sem, Nat.reduceEqDiff, Nat.reduceAdd, Nat.reduceLeDiff, h1]; (first | done | rfl)); (first | refine wcd_T ?_ | refine wcd_F ?_)
    | refine w_skip ?_ | refine w_exit ?_ | refine w_ret ?_
    | fail
    )
  exact ⟨.inr rfl, by simp only [go_sem, Nat.reduceEqDiff, Nat.reduceAdd, Nat.reduceLeDiff, retOf, resOf]; rfl⟩
end

section
variable {env : Nat → Option Def} {fr : Fr} {σ : St} {K : Fr → St → Prop}
def letterB (c : Int) : Bool := (decide (c ≥ 97) && decide (c ≤ 122)) || (decide (c ≥ 65) && decide (c ≤ 90)) || (c == 95)
def oddV (c : Int) : Bool := decide (c < 32) || decide (c > 126)
def badN (s : ByteArray) (i : Nat) : Bool := !letterB (byteAt s i) && ((i : Int) == 0 || decide (byteAt s i < 48) || decide (byteAt s i > 57))
def filled (s : ByteArray) : Bool := !(s.toList == (⟨#[]⟩ : ByteArray).toList)
def nameB (s : ByteArray) : Bool := !decide (found (badN s) s.size ≥ 0) && (filled s && decide ((s.size : Int) ≤ 64))
def valueB (s : ByteArray) : Bool := filled s && decide ((s.size : Int) ≤ 64) && !hasB oddV s
theorem byte_get {s : ByteArray} {i : Nat} (hi : i < s.size) : ∃ u : UInt8, s.data.toList[i]? = some u ∧ byteAt s i = (u.toNat : Int) := by
  have h : i < s.data.toList.length := by simpa using hi
  refine ⟨_, List.getElem?_eq_getElem h, ?_⟩
  unfold byteAt
  rw [List.getElem?_eq_getElem h]
theorem a131 (H : Has la0 env) {s : ByteArray} (hn : s.size ≤ 9223372036854775807) : AV env 131 [.sc (.string s)] = some (.sc (.bool (valueB s))) := by
  have h1 := a67b (la0_lax H) (k := 139) hn (a139 H)
  refine AV_wp (H (131, d131) (by simp [la0])) rfl ?_
  (repeat' first
    | refine w_seq ?_ | refine w_rg ?_ | refine wo_nil ?_ | refine g_skU ?_ | refine g_skT ?_ | refine g_skF ?_
    | ((first | apply s_plain | apply s_void | apply s_guard | apply g_goT | apply g_goF); · simp only [go_sem, Nat.reduceEqDiff, Nat.reduceAdd, Nat.reduceLeDiff, h1]; (first | done | rfl))
    | ((first | apply g_T | apply g_F | apply g_gT | apply g_gF); · intro q1_; (first | intro q2_ | have q2_ := q1_); simp only [go_sem, Nat.reduceEqDiff, Nat.reduceAdd, Nat.reduceLeDiff, h1, q1_, q2_]; (first | done | rfl))
    | (apply w_condX; · simp only [go_sem, Nat.reduceEqDiff, Nat.reduceAdd, Nat.reduceLeDiff, h1]; (first | done | rfl)); (first | refine wcd_T ?_ | refine wcd_F ?_)
    | refine w_skip ?_ | refine w_exit ?_ | refine w_ret ?_
    | fail
    )
  exact ⟨.inr rfl, by simp only [go_sem, Nat.reduceEqDiff, Nat.reduceAdd, Nat.reduceLeDiff, retOf, resOf]; rfl⟩
theorem a130 (H : Has la0 env) {s : ByteArray} (hn : s.size ≤ 9223372036854775807) : AV env 130 [.sc (.string s)] = some (.sc (.bool (nameB s))) := by
  refine AV_wp (H (130, d130) (by simp [la0])) rfl ?_
  (repeat' first
    | refine w_seq ?_ | refine w_rg ?_ | refine wo_nil ?_ | refine g_skU ?_ | refine g_skT ?_ | refine g_skF ?_
    | ((first | apply s_plain | apply s_void | apply s_guard | apply g_goT | apply g_goF); · simp only [go_sem, Nat.reduceEqDiff, Nat.reduceAdd, Nat.reduceLeDiff]; (first | done | rfl))
    | ((first | apply g_T | apply g_F | apply g_gT | apply g_gF); · intro q1_; (first | intro q2_ | have q2_ := q1_); simp only [go_sem, Nat.reduceEqDiff, Nat.reduceAdd, Nat.reduceLeDiff, q1_, q2_]; (first | done | rfl))
    | fail
    )
  refine w_block (w_range s.size hn (fun i fr σ => fr 0 = .sc (.string s) ∧ ∀ j, j < i → badN s j = false) (by decide) ?_ ?_ ?_ _ _ ?_ ?_ ?_)
  · rintro i fr σ v ⟨h0, h2⟩
    refine ⟨⟨?_, h2⟩, ⟨?_, h2⟩, ⟨?_, h2⟩⟩ <;> simp only [go_sem, Nat.reduceEqDiff, Nat.reduceAdd, Nat.reduceLeDiff, h0]
  · rintro i fr σ hi ⟨h0, h3⟩ hti htn
    obtain ⟨u, hu, hb⟩ := byte_get hi
    have e1 : (0 : Int) ≤ (i : Int) := by omega
    have h138 := a138 H (u.toNat : Int)
    refine w_block ?_
    (repeat' first
    | refine w_seq ?_ | refine w_rg ?_ | refine wo_nil ?_ | refine g_skU ?_ | refine g_skT ?_ | refine g_skF ?_
    | ((first | apply s_plain | apply s_void | apply s_guard | apply g_goT | apply g_goF); · simp only [go_sem, Nat.reduceEqDiff, Nat.reduceAdd, Nat.reduceLeDiff, h0, hti, e1, Int.toNat_natCast, hu, h138]; (first | done | rfl))
    | ((first | apply g_T | apply g_F | apply g_gT | apply g_gF); · intro q1_; (first | intro q2_ | have q2_ := q1_); simp only [go_sem, Nat.reduceEqDiff, Nat.reduceAdd, Nat.reduceLeDiff, h0, hti, e1, Int.toNat_natCast, hu, h138, q1_, q2_]; (first | done | rfl))
    | fail
    )
    have hbad : badN s i = (!letterB u.toNat && ((i : Int) == 0 || decide ((u.toNat : Int) < 48) || decide ((u.toNat : Int) > 57))) := by unfold badN; rw [hb]
    cases hpi : badN s i with
    | true =>
      refine w_condT (by simp only [go_sem, Nat.reduceEqDiff, Nat.reduceAdd, Nat.reduceLeDiff]; rw [hbad] at hpi; exact congrArg (fun b => PV.sc (.bool b)) hpi) ?_
      (repeat' first
    | refine w_seq ?_ | refine w_rg ?_ | refine wo_nil ?_ | refine g_skU ?_ | refine g_skT ?_ | refine g_skF ?_
    | ((first | apply s_plain | apply s_void | apply s_guard | apply g_goT | apply g_goF); · simp only [go_sem, Nat.reduceEqDiff, Nat.reduceAdd, Nat.reduceLeDiff]; (first | done | rfl))
    | ((first | apply g_T | apply g_F | apply g_gT | apply g_gF); · intro q1_; (first | intro q2_ | have q2_ := q1_); simp only [go_sem, Nat.reduceEqDiff, Nat.reduceAdd, Nat.reduceLeDiff, q1_, q2_]; (first | done | rfl))
    | (apply w_condX; · simp only [go_sem, Nat.reduceEqDiff, Nat.reduceAdd, Nat.reduceLeDiff]; (first | done | rfl)); (first | refine wcd_T ?_ | refine wcd_F ?_)
    | refine w_skip ?_ | refine w_exit ?_ | refine w_ret ?_
    | fail
    )
      exact ⟨.inr rfl, by simp only [go_sem, Nat.reduceEqDiff, Nat.reduceAdd, Nat.reduceLeDiff, retOf, resOf]; simp [nameB, found_hit hi h3 hpi]⟩
    | false =>
      refine w_condF (by simp only [go_sem, Nat.reduceEqDiff, Nat.reduceAdd, Nat.reduceLeDiff]; rw [hbad] at hpi; exact congrArg (fun b => PV.sc (.bool b)) hpi) ?_
      (repeat' first
    | refine w_seq ?_ | refine w_rg ?_ | refine wo_nil ?_ | refine g_skU ?_ | refine g_skT ?_ | refine g_skF ?_
    | ((first | apply s_plain | apply s_void | apply s_guard | apply g_goT | apply g_goF); · simp only [go_sem, Nat.reduceEqDiff, Nat.reduceAdd, Nat.reduceLeDiff]; (first | done | rfl))
    | ((first | apply g_T | apply g_F | apply g_gT | apply g_gF); · intro q1_; (first | intro q2_ | have q2_ := q1_); simp only [go_sem, Nat.reduceEqDiff, Nat.reduceAdd, Nat.reduceLeDiff, q1_, q2_]; (first | done | rfl))
    | (apply w_condX; · simp only [go_sem, Nat.reduceEqDiff, Nat.reduceAdd, Nat.reduceLeDiff]; (first | done | rfl)); (first | refine wcd_T ?_ | refine wcd_F ?_)
    | refine w_skip ?_ | refine w_exit ?_ | refine w_ret ?_
    | fail
    )
      refine ⟨⟨?_, fun j hj => ?_⟩, ?_, ?_⟩
      · simp only [go_sem, Nat.reduceEqDiff, Nat.reduceAdd, Nat.reduceLeDiff, h0]
      · by_cases hji : j = i
        · rw [hji]; exact hpi
        · exact h3 j (by omega)
      · simp only [go_sem, Nat.reduceEqDiff, Nat.reduceAdd, Nat.reduceLeDiff, hti]
      · simp only [go_sem, Nat.reduceEqDiff, Nat.reduceAdd, Nat.reduceLeDiff, htn]
  · rintro fr σ ⟨h0, h3⟩
    simp only [if_true]
    (repeat' first
    | refine w_seq ?_ | refine w_rg ?_ | refine wo_nil ?_ | refine g_skU ?_ | refine g_skT ?_ | refine g_skF ?_
    | ((first | apply s_plain | apply s_void | apply s_guard | apply g_goT | apply g_goF); · simp only [go_sem, Nat.reduceEqDiff, Nat.reduceAdd, Nat.reduceLeDiff, h0]; (first | done | rfl))
    | ((first | apply g_T | apply g_F | apply g_gT | apply g_gF); · intro q1_; (first | intro q2_ | have q2_ := q1_); simp only [go_sem, Nat.reduceEqDiff, Nat.reduceAdd, Nat.reduceLeDiff, h0, q1_, q2_]; (first | done | rfl))
    | (apply w_condX; · simp only [go_sem, Nat.reduceEqDiff, Nat.reduceAdd, Nat.reduceLeDiff, h0]; (first | done | rfl)); (first | refine wcd_T ?_ | refine wcd_F ?_)
    | refine w_skip ?_ | refine w_exit ?_ | refine w_ret ?_
    | fail
    )
    exact ⟨.inr rfl, by simp only [go_sem, Nat.reduceEqDiff, Nat.reduceAdd, Nat.reduceLeDiff, retOf, resOf]; simp [nameB, filled, found_none h3]⟩
  · refine ⟨?_, fun j hj => by omega⟩ <;> simp only [go_sem, Nat.reduceEqDiff, Nat.reduceAdd, Nat.reduceLeDiff]
  · simp only [go_sem, Nat.reduceEqDiff, Nat.reduceAdd, Nat.reduceLeDiff]
  · simp only [go_sem, Nat.reduceEqDiff, Nat.reduceAdd, Nat.reduceLeDiff]
end

def d120 : Def := (.code 1 [.tmp 2] (.seq (.rg false [⟨.some 1, .none, .box (.t 0)⟩, ⟨.some 2, .none, .mv (.c (.bool false))⟩]) (.seq (.rg false [⟨.some 3, .none, .fa 0 (.t 1)⟩, ⟨.some 4, .none, .ld .none (.t 3)⟩, ⟨.some 5, .none, .call 130 .pure [.t 4]⟩, ⟨.some 6, .none, .mv (.t 5)⟩, ⟨.some 7, .some (6, true), .fa 1 (.t 1)⟩, ⟨.some 8, .some (6, true), .ld .none (.t 7)⟩, ⟨.some 9, .some (6, true), .call 131 .pure [.t 8]⟩, ⟨.some 10, .none, .pick (.t 6) (.t 9) (.c (.bool false))⟩, ⟨.some 2, .none, .mv (.t 10)⟩]) .ret)))
def d113 : Def := (.code 1 [.tmp 2] (.seq (.rg false [⟨.some 2, .none, .mv (.c (.bool false))⟩]) (.seq (.seq (.rg false [⟨.some 5, .none, .mv (.t 0)⟩, ⟨.some 6, .none, .lenL (.t 5)⟩, ⟨.some 7, .none, .mv (.c (.int .i64 0))⟩]) (.block 0 (.loop (.seq (.rg false [⟨.some 8, .none, .bin .lss (.t 7) (.t 6)⟩]) (.seq (.cond (.t 8) .skip (.exit 0)) (.seq (.block 1 (.seq (.rg false [⟨.some 9, .none, .mv (.t 7)⟩, ⟨.some 10, .none, .ia 2 (.t 5) (.t 7)⟩, ⟨.some 11, .none, .ld (.some 2) (.t 10)⟩, ⟨.some 4, .none, .box (.c (.agg #[.string ⟨#[]⟩, .string ⟨#[]⟩]))⟩, ⟨.some 3, .none, .mv (.t 9)⟩, ⟨.none, .none, .st 2 (.t 4) (.t 11)⟩]) (.seq (.rg true [⟨.some 12, .none, .ld (.some 2) (.t 4)⟩, ⟨.some 13, .none, .call 120 .strict [.t 12]⟩, ⟨.some 14, .none, .un .not (.t 13)⟩, ⟨.some 15, .none, .mv (.t 14)⟩, ⟨.some 16, .some (15, false), .mv (.t 3)⟩, ⟨.some 17, .some (15, false), .bin .gtr (.t 16) (.c (.int .i64 0))⟩, ⟨.some 18, .some (15, false), .mv (.t 17)⟩, ⟨.some 19, .some (18, true), .mv (.t 0)⟩, ⟨.some 20, .some (18, true), .mv (.t 3)⟩, ⟨.some 21, .some (18, true), .bin .sub (.t 20) (.c (.int .i64 1))⟩, ⟨.some 22, .some (18, true), .ia 2 (.t 19) (.t 21)⟩, ⟨.some 23, .some (18, true), .fa 0 (.t 22)⟩, ⟨.some 24, .some (18, true), .ld .none (.t 23)⟩, ⟨.some 25, .some (18, true), .fa 0 (.t 4)⟩, ⟨.some 26, .some (18, true), .ld .none (.t 25)⟩, ⟨.some 27, .some (18, true), .bin .geq (.t 24) (.t 26)⟩, ⟨.some 28, .some (15, false), .pick (.t 18) (.t 27) (.c (.bool false))⟩, ⟨.some 29, .none, .pick (.t 15) (.c (.bool true)) (.t 28)⟩]) (.cond (.t 29) (.seq (.rg false [⟨.some 2, .none, .mv (.c (.bool false))⟩]) .ret) .skip)))) (.rg false [⟨.some 30, .none, .bin .add (.t 7) (.c (.int .i64 1))⟩, ⟨.some 7, .none, .mv (.t 30)⟩]))))))) (.seq (.rg false [⟨.some 31, .none, .mv (.t 0)⟩, ⟨.some 32, .none, .lenL (.t 31)⟩, ⟨.some 33, .none, .bin .leq (.t 32) (.c (.int .i64 8))⟩, ⟨.some 2, .none, .mv (.t 33)⟩]) .ret))))
def d121 : Def := (.code 2 [.tmp 4] (.seq (.rg false [⟨.some 4, .none, .mv (.c (.int .i64 0))⟩]) (.seq (.seq (.rg false [⟨.some 6, .none, .mv (.t 0)⟩, ⟨.some 7, .none, .lenL (.t 6)⟩, ⟨.some 8, .none, .mv (.c (.int .i64 0))⟩]) (.block 0 (.loop (.seq (.rg false [⟨.some 9, .none, .bin .lss (.t 8) (.t 7)⟩]) (.seq (.cond (.t 9) .skip (.exit 0)) (.seq (.block 1 (.seq (.rg false [⟨.some 10, .none, .mv (.t 8)⟩, ⟨.some 5, .none, .mv (.t 10)⟩]) (.seq (.rg false [⟨.some 11, .none, .mv (.t 1)⟩, ⟨.some 12, .none, .mv (.t 0)⟩, ⟨.some 13, .none, .mv (.t 5)⟩, ⟨.some 14, .none, .ia 2 (.t 12) (.t 13)⟩, ⟨.some 15, .none, .ld (.some 2) (.t 14)⟩, ⟨.some 16, .none, .callv (.t 11) .pure [.t 15]⟩]) (.cond (.t 16) (.seq (.rg false [⟨.some 17, .none, .mv (.t 5)⟩, ⟨.some 4, .none, .mv (.t 17)⟩]) .ret) .skip)))) (.rg false [⟨.some 18, .none, .bin .add (.t 8) (.c (.int .i64 1))⟩, ⟨.some 8, .none, .mv (.t 18)⟩]))))))) (.seq (.rg false [⟨.some 4, .none, .mv (.c (.int .i64 (-1)))⟩]) .ret))))
def d122 : Def := (.code 2 [.tmp 3] (.seq (.rg false [⟨.some 2, .none, .box (.t 0)⟩, ⟨.some 3, .none, .mv (.c (.bool false))⟩]) (.seq (.rg false [⟨.some 4, .none, .fa 0 (.t 2)⟩, ⟨.some 5, .none, .ld .none (.t 4)⟩, ⟨.some 6, .none, .ld .none (.t 1)⟩, ⟨.some 7, .none, .bin .eql (.t 5) (.t 6)⟩, ⟨.some 3, .none, .mv (.t 7)⟩]) .ret)))
def d114 : Def := (.code 2 [.tmp 4] (.seq (.rg false [⟨.some 3, .none, .box (.t 1)⟩, ⟨.some 4, .none, .mv (.c (.string ⟨#[]⟩))⟩]) (.seq (.rg false [⟨.some 6, .none, .mv (.t 0)⟩, ⟨.some 7, .none, .mkf 122 [] [.t 3]⟩, ⟨.some 8, .none, .call 121 .pure [.t 6, .t 7]⟩, ⟨.some 5, .none, .mv (.t 8)⟩]) (.seq (.seq (.rg false [⟨.some 9, .none, .mv (.t 5)⟩, ⟨.some 10, .none, .bin .lss (.t 9) (.c (.int .i64 0))⟩]) (.cond (.t 10) (.seq (.rg false [⟨.some 4, .none, .mv (.c (.string ⟨#[]⟩))⟩]) .ret) .skip)) (.seq (.rg false [⟨.some 11, .none, .mv (.t 0)⟩, ⟨.some 12, .none, .mv (.t 5)⟩, ⟨.some 13, .none, .ia 2 (.t 11) (.t 12)⟩, ⟨.some 14, .none, .fa 1 (.t 13)⟩, ⟨.some 15, .none, .ld .none (.t 14)⟩, ⟨.some 4, .none, .mv (.t 15)⟩]) .ret)))))
def lc : List (Nat × Def) := [(120, d120), (113, d113), (121, d121), (122, d122), (114, d114)]
abbrev Lab := ByteArray × ByteArray
def lab (m : Lab) : PV := .agg [.sc (.string m.1), .sc (.string m.2)]
def labs (l : List Lab) : List PV := l.map lab
def Small (s : ByteArray) : Prop := s.size ≤ 9223372036854775807
section
variable {env : Nat → Option Def} {fr : Fr} {σ : St} {K : Fr → St → Prop}
def mayB (m : Lab) : Bool := nameB m.1 && valueB m.2
theorem a120 (H : Has la0 env) (G : Has lc env) {m : Lab} (h1 : Small m.1) (h2 : Small m.2) : AV env 120 [lab m] = some (.sc (.bool (mayB m))) := by
  have e1 := a130 H h1
  have e2 := a131 H h2
  refine AV_wp (G (120, d120) (by simp [lc])) rfl ?_
  unfold lab
  (repeat' first
    | refine w_seq ?_ | refine w_rg ?_ | refine wo_nil ?_ | refine g_skU ?_ | refine g_skT ?_ | refine g_skF ?_
    | ((first | apply s_plain | apply s_void | apply s_guard | apply g_goT | apply g_goF); · simp only [go_sem, Nat.reduceEqDiff, Nat.reduceAdd, Nat.reduceLeDiff, e1, e2]; (first | done | rfl))
    | ((first | apply g_T | apply g_F | apply g_gT | apply g_gF); · intro q1_; (first | intro q2_ | have q2_ := q1_); simp only [go_sem, Nat.reduceEqDiff, Nat.reduceAdd, Nat.reduceLeDiff, e1, e2, q1_, q2_]; (first | done | rfl))
    | (apply w_condX; · simp only [go_sem, Nat.reduceEqDiff, Nat.reduceAdd, Nat.reduceLeDiff, e1, e2]; (first | done | rfl)); (first | refine wcd_T ?_ | refine wcd_F ?_)
    | refine w_skip ?_ | refine w_exit ?_ | refine w_ret ?_
    | fail
    )
  exact ⟨.inr rfl, by simp only [go_sem, Nat.reduceEqDiff, Nat.reduceAdd, Nat.reduceLeDiff, retOf, resOf]; rfl⟩
theorem a122 (G : Has lc env) {m : Lab} {n : ByteArray} {xs : List PV} (hx : xs = [.sc (.string n)]) : AV env 122 [lab m, .fp xs 0 0] = some (.sc (.bool (m.1.toList == n.toList))) := by
  subst hx
  refine AV_wp (G (122, d122) (by simp [lc])) rfl ?_
  unfold lab
  (repeat' first
    | refine w_seq ?_ | refine w_rg ?_ | refine wo_nil ?_ | refine g_skU ?_ | refine g_skT ?_ | refine g_skF ?_
    | ((first | apply s_plain | apply s_void | apply s_guard | apply g_goT | apply g_goF); · simp only [go_sem, Nat.reduceEqDiff, Nat.reduceAdd, Nat.reduceLeDiff]; (first | done | rfl))
    | ((first | apply g_T | apply g_F | apply g_gT | apply g_gF); · intro q1_; (first | intro q2_ | have q2_ := q1_); simp only [go_sem, Nat.reduceEqDiff, Nat.reduceAdd, Nat.reduceLeDiff, q1_, q2_]; (first | done | rfl))
    | (apply w_condX; · simp only [go_sem, Nat.reduceEqDiff, Nat.reduceAdd, Nat.reduceLeDiff]; (first | done | rfl)); (first | refine wcd_T ?_ | refine wcd_F ?_)
    | refine w_skip ?_ | refine w_exit ?_ | refine w_ret ?_
    | fail
    )
  exact ⟨.inr rfl, by simp only [go_sem, Nat.reduceEqDiff, Nat.reduceAdd, Nat.reduceLeDiff, retOf, resOf]⟩
theorem labs_at {l : List Lab} {i : Nat} {m : Lab} (h : l[i]? = some m) : (labs l)[i]? = some (lab m) := by
  unfold labs
  rw [List.getElem?_map, h]; rfl
theorem labs_len (l : List Lab) : (labs l).length = l.length := by simp [labs]
theorem a121 (G : Has lc env) {l : List Lab} {k : Nat} {a b : List PV} {p : Nat → Bool} (hn : l.length ≤ 9223372036854775807)
    (hz : ∀ m σ, (a ++ [lab m] ++ b).mapM (fz σ 12) = some (a ++ [lab m] ++ b)) (hp : ∀ (i : Nat) m, l[i]? = some m → AV env k (a ++ [lab m] ++ b) = some (.sc (.bool (p i)))) :
    AV env 121 [.sl (labs l), .fn k a b] = some (.sc (.int .i64 (found p l.length))) := by
  refine AV_wp (G (121, d121) (by simp [lc])) rfl ?_
  have hll := labs_len l
  (repeat' first
    | refine w_seq ?_ | refine w_rg ?_ | refine wo_nil ?_ | refine g_skU ?_ | refine g_skT ?_ | refine g_skF ?_
    | ((first | apply s_plain | apply s_void | apply s_guard | apply g_goT | apply g_goF); · simp only [go_sem, Nat.reduceEqDiff, Nat.reduceAdd, Nat.reduceLeDiff, hll]; (first | done | rfl))
    | ((first | apply g_T | apply g_F | apply g_gT | apply g_gF); · intro q1_; (first | intro q2_ | have q2_ := q1_); simp only [go_sem, Nat.reduceEqDiff, Nat.reduceAdd, Nat.reduceLeDiff, hll, q1_, q2_]; (first | done | rfl))
    | fail
    )
  refine w_block (w_range l.length hn (fun i fr σ => fr 0 = .sl (labs l) ∧ fr 1 = .fn k a b ∧ ∀ j, j < i → p j = false) (by decide) ?_ ?_ ?_ _ _ ?_ ?_ ?_)
  · rintro i fr σ v ⟨h0, h1, h2⟩
    refine ⟨⟨?_, ?_, h2⟩, ⟨?_, ?_, h2⟩, ⟨?_, ?_, h2⟩⟩ <;> simp only [go_sem, Nat.reduceEqDiff, Nat.reduceAdd, Nat.reduceLeDiff, h0, h1]
  · rintro i fr σ hi ⟨h0, h2, h3⟩ hti htn
    have hx := List.getElem?_eq_getElem hi
    have hy := labs_at hx
    have e1 : (0 : Int) ≤ (i : Int) ∧ (i : Int) < (l.length : Int) := by omega
    refine w_block ?_
    have hz' := hz l[i]
    have hp' := hp i _ hx
    simp only [lab, List.append_assoc, List.cons_append, List.nil_append] at hz' hp' hy
    (repeat' first
    | refine w_seq ?_ | refine w_rg ?_ | refine wo_nil ?_ | refine g_skU ?_ | refine g_skT ?_ | refine g_skF ?_
    | ((first | apply s_plain | apply s_void | apply s_guard | apply g_goT | apply g_goF); · simp only [go_sem, Nat.reduceEqDiff, Nat.reduceAdd, Nat.reduceLeDiff, h0, h2, hti, e1, hll, Int.toNat_natCast, hy, List.append_assoc, hz', hp']; (first | done | rfl))
    | ((first | apply g_T | apply g_F | apply g_gT | apply g_gF); · intro q1_; (first | intro q2_ | have q2_ := q1_); simp only [go_sem, Nat.reduceEqDiff, Nat.reduceAdd, Nat.reduceLeDiff, h0, h2, hti, e1, hll, Int.toNat_natCast, hy, List.append_assoc, hz', hp', q1_, q2_]; (first | done | rfl))
    | fail
    )
    cases hpi : p i with
    | true =>
      (repeat' first
    | refine w_seq ?_ | refine w_rg ?_ | refine wo_nil ?_ | refine g_skU ?_ | refine g_skT ?_ | refine g_skF ?_
    | ((first | apply s_plain | apply s_void | apply s_guard | apply g_goT | apply g_goF); · simp only [go_sem, Nat.reduceEqDiff, Nat.reduceAdd, Nat.reduceLeDiff]; (first | done | rfl))
    | ((first | apply g_T | apply g_F | apply g_gT | apply g_gF); · intro q1_; (first | intro q2_ | have q2_ := q1_); simp only [go_sem, Nat.reduceEqDiff, Nat.reduceAdd, Nat.reduceLeDiff, q1_, q2_]; (first | done | rfl))
    | (apply w_condX; · simp only [go_sem, Nat.reduceEqDiff, Nat.reduceAdd, Nat.reduceLeDiff]; (first | done | rfl)); (first | refine wcd_T ?_ | refine wcd_F ?_)
    | refine w_skip ?_ | refine w_exit ?_ | refine w_ret ?_
    | fail
    )
      exact ⟨.inr rfl, by simp only [go_sem, Nat.reduceEqDiff, Nat.reduceAdd, Nat.reduceLeDiff, retOf, resOf, found_hit hi h3 hpi]⟩
    | false =>
      (repeat' first
    | refine w_seq ?_ | refine w_rg ?_ | refine wo_nil ?_ | refine g_skU ?_ | refine g_skT ?_ | refine g_skF ?_
    | ((first | apply s_plain | apply s_void | apply s_guard | apply g_goT | apply g_goF); · simp only [go_sem, Nat.reduceEqDiff, Nat.reduceAdd, Nat.reduceLeDiff]; (first | done | rfl))
    | ((first | apply g_T | apply g_F | apply g_gT | apply g_gF); · intro q1_; (first | intro q2_ | have q2_ := q1_); simp only [go_sem, Nat.reduceEqDiff, Nat.reduceAdd, Nat.reduceLeDiff, q1_, q2_]; (first | done | rfl))
    | (apply w_condX; · simp only [go_sem, Nat.reduceEqDiff, Nat.reduceAdd, Nat.reduceLeDiff]; (first | done | rfl)); (first | refine wcd_T ?_ | refine wcd_F ?_)
    | refine w_skip ?_ | refine w_exit ?_ | refine w_ret ?_
    | fail
    )
      refine ⟨⟨?_, ?_, fun j hj => ?_⟩, ?_, ?_⟩
      · simp only [go_sem, Nat.reduceEqDiff, Nat.reduceAdd, Nat.reduceLeDiff, h0]
      · simp only [go_sem, Nat.reduceEqDiff, Nat.reduceAdd, Nat.reduceLeDiff, h2]
      · by_cases hji : j = i
        · rw [hji]; exact hpi
        · exact h3 j (by omega)
      · simp only [go_sem, Nat.reduceEqDiff, Nat.reduceAdd, Nat.reduceLeDiff, hti]
      · simp only [go_sem, Nat.reduceEqDiff, Nat.reduceAdd, Nat.reduceLeDiff, htn]
  · rintro fr σ ⟨h0, h2, h3⟩
    simp only [if_true]
    (repeat' first
    | refine w_seq ?_ | refine w_rg ?_ | refine wo_nil ?_ | refine g_skU ?_ | refine g_skT ?_ | refine g_skF ?_
    | ((first | apply s_plain | apply s_void | apply s_guard | apply g_goT | apply g_goF); · simp only [go_sem, Nat.reduceEqDiff, Nat.reduceAdd, Nat.reduceLeDiff]; (first | done | rfl))
    | ((first | apply g_T | apply g_F | apply g_gT | apply g_gF); · intro q1_; (first | intro q2_ | have q2_ := q1_); simp only [go_sem, Nat.reduceEqDiff, Nat.reduceAdd, Nat.reduceLeDiff, q1_, q2_]; (first | done | rfl))
    | (apply w_condX; · simp only [go_sem, Nat.reduceEqDiff, Nat.reduceAdd, Nat.reduceLeDiff]; (first | done | rfl)); (first | refine wcd_T ?_ | refine wcd_F ?_)
    | refine w_skip ?_ | refine w_exit ?_ | refine w_ret ?_
    | fail
    )
    exact ⟨.inr rfl, by simp only [go_sem, Nat.reduceEqDiff, Nat.reduceAdd, Nat.reduceLeDiff, retOf, resOf, found_none h3]⟩
  · refine ⟨?_, ?_, fun j hj => by omega⟩ <;> simp only [go_sem, Nat.reduceEqDiff, Nat.reduceAdd, Nat.reduceLeDiff]
  · simp only [go_sem, Nat.reduceEqDiff, Nat.reduceAdd, Nat.reduceLeDiff]
  · simp only [go_sem, Nat.reduceEqDiff, Nat.reduceAdd, Nat.reduceLeDiff, hll]
end

section
variable {env : Nat → Option Def} {fr : Fr} {σ : St} {K : Fr → St → Prop}
def nth (l : List Lab) (i : Nat) : Lab := l[i]?.getD (⟨#[]⟩, ⟨#[]⟩)
def badL (l : List Lab) (i : Nat) : Bool := !mayB (nth l i) || (decide ((i : Int) > 0) && !Op.bytesLess (nth l (i - 1)).1.toList (nth l i).1.toList)
def rightL (l : List Lab) : Bool := !decide (found (badL l) l.length ≥ 0) && decide ((l.length : Int) ≤ 8)
def Smalls (l : List Lab) : Prop := ∀ m ∈ l, Small m.1 ∧ Small m.2
theorem a113 (H : Has la0 env) (G : Has lc env) {l : List Lab} (hn : l.length ≤ 9223372036854775807) (hl : Smalls l) : AV env 113 [.sl (labs l)] = some (.sc (.bool (rightL l))) := by
  refine AV_wp (G (113, d113) (by simp [lc])) rfl ?_
  have hll := labs_len l
  (repeat' first
    | refine w_seq ?_ | refine w_rg ?_ | refine wo_nil ?_ | refine g_skU ?_ | refine g_skT ?_ | refine g_skF ?_
    | ((first | apply s_plain | apply s_void | apply s_guard | apply g_goT | apply g_goF); · simp only [go_sem, Nat.reduceEqDiff, Nat.reduceAdd, Nat.reduceLeDiff, hll]; (first | done | rfl))
    | ((first | apply g_T | apply g_F | apply g_gT | apply g_gF); · intro q1_; (first | intro q2_ | have q2_ := q1_); simp only [go_sem, Nat.reduceEqDiff, Nat.reduceAdd, Nat.reduceLeDiff, hll, q1_, q2_]; (first | done | rfl))
    | fail
    )
  refine w_block (w_range l.length hn (fun i fr σ => fr 0 = .sl (labs l) ∧ fr 5 = .sl (labs l) ∧ ∀ j, j < i → badL l j = false) (by decide) ?_ ?_ ?_ _ _ ?_ ?_ ?_)
  · rintro i fr σ v ⟨h0, h1, h2⟩
    refine ⟨⟨?_, ?_, h2⟩, ⟨?_, ?_, h2⟩, ⟨?_, ?_, h2⟩⟩ <;> simp only [go_sem, Nat.reduceEqDiff, Nat.reduceAdd, Nat.reduceLeDiff, h0, h1]
  · rintro i fr σ hi ⟨h0, h5, h3⟩ hti htn
    have hx := List.getElem?_eq_getElem hi
    have hy := labs_at hx
    have hni : nth l i = l[i] := by unfold nth; rw [hx]; rfl
    have e1 : (0 : Int) ≤ (i : Int) ∧ (i : Int) < (l.length : Int) := by omega
    have hm := a120 H G (hl _ (List.getElem_mem hi)).1 (hl _ (List.getElem_mem hi)).2
    refine w_block ?_
    simp only [lab] at hy hm
    (repeat' first
    | refine w_seq ?_ | refine w_rg ?_ | refine wo_nil ?_ | refine g_skU ?_ | refine g_skT ?_ | refine g_skF ?_
    | ((first | apply s_plain | apply s_void | apply s_guard | apply g_goT | apply g_goF); · simp only [go_sem, Nat.reduceEqDiff, Nat.reduceAdd, Nat.reduceLeDiff, h0, h5, hti, e1, hll, Int.toNat_natCast, hy, hm, and_true, true_and, if_true, List.modify_cons, List.modify_zero_cons, Nat.lt_irrefl, Nat.zero_lt_one, Nat.lt_add_one]; (first | done | rfl))
    | ((first | apply g_T | apply g_F | apply g_gT | apply g_gF); · intro q1_; (first | intro q2_ | have q2_ := q1_); simp only [go_sem, Nat.reduceEqDiff, Nat.reduceAdd, Nat.reduceLeDiff, h0, h5, hti, e1, hll, Int.toNat_natCast, hy, hm, and_true, true_and, if_true, List.modify_cons, List.modify_zero_cons, Nat.lt_irrefl, Nat.zero_lt_one, Nat.lt_add_one, q1_, q2_]; (first | done | rfl))
    | fail
    )
    have hx' : l[i - 1]? = some (nth l (i - 1)) := by
      have : i - 1 < l.length := by omega
      unfold nth; rw [List.getElem?_eq_getElem this]; rfl
    have hy' := labs_at hx'
    simp only [lab] at hy'
    refine g_gT (v := .fp (labs l) (i - 1) 0) (by
      intro hb hc
      have hpos : 0 < i := by simpa using hc
      have e2 : IntKind.i64.wrap ((i : Int) - 1) = ((i - 1 : Nat) : Int) := by rw [IntKind.wrap_i64]; omega
      have e3 : (0 : Int) ≤ ((i - 1 : Nat) : Int) ∧ ((i - 1 : Nat) : Int) < (l.length : Int) := by omega
      simp only [go_sem, Nat.reduceEqDiff, Nat.reduceAdd, Nat.reduceLeDiff, h0, hb, hc, e2, e3, hll, Int.toNat_natCast, hy']) ?_
    (repeat' first
    | refine w_seq ?_ | refine w_rg ?_ | refine wo_nil ?_ | refine g_skU ?_ | refine g_skT ?_ | refine g_skF ?_
    | ((first | apply s_plain | apply s_void | apply s_guard | apply g_goT | apply g_goF); · simp only [go_sem, Nat.reduceEqDiff, Nat.reduceAdd, Nat.reduceLeDiff, h0, hy', and_true, true_and, if_true]; (first | done | rfl))
    | ((first | apply g_T | apply g_F | apply g_gT | apply g_gF); · intro q1_; (first | intro q2_ | have q2_ := q1_); simp only [go_sem, Nat.reduceEqDiff, Nat.reduceAdd, Nat.reduceLeDiff, h0, hy', and_true, true_and, if_true, q1_, q2_]; (first | done | rfl))
    | fail
    )
    have hbad : badL l i = (!mayB l[i] || (decide ((i : Int) > 0) && !Op.bytesLess (nth l (i - 1)).1.toList l[i].1.toList)) := by unfold badL; rw [hni]
    cases hpi : badL l i with
    | true =>
      refine w_condT (by simp only [go_sem, Nat.reduceEqDiff, Nat.reduceAdd, Nat.reduceLeDiff]; rw [hbad] at hpi; exact congrArg (fun b => PV.sc (.bool b)) hpi) ?_
      (repeat' first
    | refine w_seq ?_ | refine w_rg ?_ | refine wo_nil ?_ | refine g_skU ?_ | refine g_skT ?_ | refine g_skF ?_
    | ((first | apply s_plain | apply s_void | apply s_guard | apply g_goT | apply g_goF); · simp only [go_sem, Nat.reduceEqDiff, Nat.reduceAdd, Nat.reduceLeDiff]; (first | done | rfl))
    | ((first | apply g_T | apply g_F | apply g_gT | apply g_gF); · intro q1_; (first | intro q2_ | have q2_ := q1_); simp only [go_sem, Nat.reduceEqDiff, Nat.reduceAdd, Nat.reduceLeDiff, q1_, q2_]; (first | done | rfl))
    | (apply w_condX; · simp only [go_sem, Nat.reduceEqDiff, Nat.reduceAdd, Nat.reduceLeDiff]; (first | done | rfl)); (first | refine wcd_T ?_ | refine wcd_F ?_)
    | refine w_skip ?_ | refine w_exit ?_ | refine w_ret ?_
    | fail
    )
      exact ⟨.inr rfl, by simp only [go_sem, Nat.reduceEqDiff, Nat.reduceAdd, Nat.reduceLeDiff, retOf, resOf]; simp [rightL, found_hit hi h3 hpi]⟩
    | false =>
      refine w_condF (by simp only [go_sem, Nat.reduceEqDiff, Nat.reduceAdd, Nat.reduceLeDiff]; rw [hbad] at hpi; exact congrArg (fun b => PV.sc (.bool b)) hpi) ?_
      (repeat' first
    | refine w_seq ?_ | refine w_rg ?_ | refine wo_nil ?_ | refine g_skU ?_ | refine g_skT ?_ | refine g_skF ?_
    | ((first | apply s_plain | apply s_void | apply s_guard | apply g_goT | apply g_goF); · simp only [go_sem, Nat.reduceEqDiff, Nat.reduceAdd, Nat.reduceLeDiff]; (first | done | rfl))
    | ((first | apply g_T | apply g_F | apply g_gT | apply g_gF); · intro q1_; (first | intro q2_ | have q2_ := q1_); simp only [go_sem, Nat.reduceEqDiff, Nat.reduceAdd, Nat.reduceLeDiff, q1_, q2_]; (first | done | rfl))
    | (apply w_condX; · simp only [go_sem, Nat.reduceEqDiff, Nat.reduceAdd, Nat.reduceLeDiff]; (first | done | rfl)); (first | refine wcd_T ?_ | refine wcd_F ?_)
    | refine w_skip ?_ | refine w_exit ?_ | refine w_ret ?_
    | fail
    )
      refine ⟨⟨?_, ?_, fun j hj => ?_⟩, ?_, ?_⟩
      · simp only [go_sem, Nat.reduceEqDiff, Nat.reduceAdd, Nat.reduceLeDiff, h0]
      · simp only [go_sem, Nat.reduceEqDiff, Nat.reduceAdd, Nat.reduceLeDiff, h5]
      · by_cases hji : j = i
        · rw [hji]; exact hpi
        · exact h3 j (by omega)
      · simp only [go_sem, Nat.reduceEqDiff, Nat.reduceAdd, Nat.reduceLeDiff, hti]
      · simp only [go_sem, Nat.reduceEqDiff, Nat.reduceAdd, Nat.reduceLeDiff, htn]
  · rintro fr σ ⟨h0, h5, h3⟩
    simp only [if_true]
    (repeat' first
    | refine w_seq ?_ | refine w_rg ?_ | refine wo_nil ?_ | refine g_skU ?_ | refine g_skT ?_ | refine g_skF ?_
    | ((first | apply s_plain | apply s_void | apply s_guard | apply g_goT | apply g_goF); · simp only [go_sem, Nat.reduceEqDiff, Nat.reduceAdd, Nat.reduceLeDiff, h0, hll]; (first | done | rfl))
    | ((first | apply g_T | apply g_F | apply g_gT | apply g_gF); · intro q1_; (first | intro q2_ | have q2_ := q1_); simp only [go_sem, Nat.reduceEqDiff, Nat.reduceAdd, Nat.reduceLeDiff, h0, hll, q1_, q2_]; (first | done | rfl))
    | (apply w_condX; · simp only [go_sem, Nat.reduceEqDiff, Nat.reduceAdd, Nat.reduceLeDiff, h0, hll]; (first | done | rfl)); (first | refine wcd_T ?_ | refine wcd_F ?_)
    | refine w_skip ?_ | refine w_exit ?_ | refine w_ret ?_
    | fail
    )
    exact ⟨.inr rfl, by simp only [go_sem, Nat.reduceEqDiff, Nat.reduceAdd, Nat.reduceLeDiff, retOf, resOf]; simp [rightL, found_none h3]⟩
  · refine ⟨?_, ?_, fun j hj => by omega⟩ <;> simp only [go_sem, Nat.reduceEqDiff, Nat.reduceAdd, Nat.reduceLeDiff]
  · simp only [go_sem, Nat.reduceEqDiff, Nat.reduceAdd, Nat.reduceLeDiff]
  · simp only [go_sem, Nat.reduceEqDiff, Nat.reduceAdd, Nat.reduceLeDiff, hll]
end

def d30 : Def := (.code 1 [.tmp 2] (.seq (.rg false [⟨.some 2, .none, .mv (.c (.bool false))⟩]) (.seq (.seq (.rg false [⟨.some 3, .none, .mv (.c (.int .i64 0))⟩]) (.block 0 (.loop (.seq (.seq (.rg false [⟨.some 5, .none, .mv (.t 3)⟩, ⟨.some 6, .none, .mv (.t 0)⟩, ⟨.some 7, .none, .lenS (.t 6)⟩, ⟨.some 8, .none, .bin .lss (.t 5) (.t 7)⟩]) (.cond (.t 8) .skip (.exit 0))) (.seq (.block 1 (.seq (.rg false [⟨.some 11, .none, .mv (.t 0)⟩, ⟨.some 12, .none, .mv (.t 3)⟩, ⟨.some 13, .none, .ix (.t 11) (.t 12)⟩, ⟨.some 4, .none, .mv (.t 13)⟩]) (.seq (.rg false [⟨.some 14, .none, .mv (.t 4)⟩, ⟨.some 15, .none, .bin .lss (.t 14) (.c (.int .u8 97))⟩, ⟨.some 16, .none, .mv (.t 15)⟩, ⟨.some 17, .some (16, false), .mv (.t 4)⟩, ⟨.some 18, .some (16, false), .bin .gtr (.t 17) (.c (.int .u8 122))⟩, ⟨.some 19, .none, .pick (.t 16) (.c (.bool true)) (.t 18)⟩, ⟨.some 20, .none, .mv (.t 19)⟩, ⟨.some 21, .some (20, true), .mv (.t 4)⟩, ⟨.some 22, .some (20, true), .bin .lss (.t 21) (.c (.int .u8 48))⟩, ⟨.some 23, .some (20, true), .mv (.t 22)⟩, ⟨.some 24, .some (23, false), .mv (.t 4)⟩, ⟨.some 25, .some (23, false), .bin .gtr (.t 24) (.c (.int .u8 57))⟩, ⟨.some 26, .some (20, true), .pick (.t 23) (.c (.bool true)) (.t 25)⟩, ⟨.some 27, .none, .pick (.t 20) (.t 26) (.c (.bool false))⟩, ⟨.some 28, .none, .mv (.t 27)⟩, ⟨.some 29, .some (28, true), .mv (.t 4)⟩, ⟨.some 30, .some (28, true), .bin .neq (.t 29) (.c (.int .u8 95))⟩, ⟨.some 31, .none, .pick (.t 28) (.t 30) (.c (.bool false))⟩]) (.cond (.t 31) (.seq (.rg false [⟨.some 2, .none, .mv (.c (.bool false))⟩]) .ret) .skip)))) (.rg false [⟨.some 9, .none, .mv (.t 3)⟩, ⟨.some 10, .none, .bin .add (.t 9) (.c (.int .i64 1))⟩, ⟨.some 3, .none, .mv (.t 10)⟩])))))) (.seq (.rg false [⟨.some 32, .none, .mv (.t 0)⟩, ⟨.some 33, .none, .lenS (.t 32)⟩, ⟨.some 34, .none, .bin .gtr (.t 33) (.c (.int .i64 0))⟩, ⟨.some 35, .none, .mv (.t 34)⟩, ⟨.some 36, .some (35, true), .mv (.t 0)⟩, ⟨.some 37, .some (35, true), .lenS (.t 36)⟩, ⟨.some 38, .some (35, true), .bin .leq (.t 37) (.c (.int .i64 64))⟩, ⟨.some 39, .none, .pick (.t 35) (.t 38) (.c (.bool false))⟩, ⟨.some 2, .none, .mv (.t 39)⟩]) .ret))))
def d117 : Def := (.code 1 [.tmp 2] (.seq (.rg false [⟨.some 2, .none, .mv (.c (.bool false))⟩]) (.seq (.seq (.rg false [⟨.some 3, .none, .mv (.c (.int .i64 0))⟩]) (.block 0 (.loop (.seq (.seq (.rg false [⟨.some 6, .none, .mv (.t 3)⟩, ⟨.some 7, .none, .mv (.t 0)⟩, ⟨.some 8, .none, .lenS (.t 7)⟩, ⟨.some 9, .none, .bin .lss (.t 6) (.t 8)⟩]) (.cond (.t 9) .skip (.exit 0))) (.seq (.block 1 (.seq (.rg false [⟨.some 12, .none, .mv (.t 0)⟩, ⟨.some 13, .none, .mv (.t 3)⟩, ⟨.some 14, .none, .ix (.t 12) (.t 13)⟩, ⟨.some 4, .none, .mv (.t 14)⟩]) (.seq (.rg false [⟨.some 15, .none, .mv (.t 4)⟩, ⟨.some 16, .none, .bin .geq (.t 15) (.c (.int .u8 97))⟩, ⟨.some 17, .none, .mv (.t 16)⟩, ⟨.some 18, .some (17, true), .mv (.t 4)⟩, ⟨.some 19, .some (17, true), .bin .leq (.t 18) (.c (.int .u8 122))⟩, ⟨.some 20, .none, .pick (.t 17) (.t 19) (.c (.bool false))⟩, ⟨.some 21, .none, .mv (.t 20)⟩, ⟨.some 22, .some (21, false), .mv (.t 4)⟩, ⟨.some 23, .some (21, false), .bin .geq (.t 22) (.c (.int .u8 65))⟩, ⟨.some 24, .some (21, false), .mv (.t 23)⟩, ⟨.some 25, .some (24, true), .mv (.t 4)⟩, ⟨.some 26, .some (24, true), .bin .leq (.t 25) (.c (.int .u8 90))⟩, ⟨.some 27, .some (21, false), .pick (.t 24) (.t 26) (.c (.bool false))⟩, ⟨.some 28, .none, .pick (.t 21) (.c (.bool true)) (.t 27)⟩, ⟨.some 29, .none, .mv (.t 28)⟩, ⟨.some 30, .some (29, false), .mv (.t 4)⟩, ⟨.some 31, .some (29, false), .bin .eql (.t 30) (.c (.int .u8 95))⟩, ⟨.some 32, .none, .pick (.t 29) (.c (.bool true)) (.t 31)⟩, ⟨.some 5, .none, .mv (.t 32)⟩]) (.seq (.rg false [⟨.some 33, .none, .mv (.t 5)⟩, ⟨.some 34, .none, .un .not (.t 33)⟩, ⟨.some 35, .none, .mv (.t 34)⟩, ⟨.some 36, .some (35, true), .mv (.t 3)⟩, ⟨.some 37, .some (35, true), .bin .eql (.t 36) (.c (.int .i64 0))⟩, ⟨.some 38, .some (35, true), .mv (.t 37)⟩, ⟨.some 39, .some (38, false), .mv (.t 4)⟩, ⟨.some 40, .some (38, false), .bin .lss (.t 39) (.c (.int .u8 48))⟩, ⟨.some 41, .some (35, true), .pick (.t 38) (.c (.bool true)) (.t 40)⟩, ⟨.some 42, .some (35, true), .mv (.t 41)⟩, ⟨.some 43, .some (42, false), .mv (.t 4)⟩, ⟨.some 44, .some (42, false), .bin .gtr (.t 43) (.c (.int .u8 57))⟩, ⟨.some 45, .some (35, true), .pick (.t 42) (.c (.bool true)) (.t 44)⟩, ⟨.some 46, .none, .pick (.t 35) (.t 45) (.c (.bool false))⟩]) (.cond (.t 46) (.seq (.rg false [⟨.some 2, .none, .mv (.c (.bool false))⟩]) .ret) .skip))))) (.rg false [⟨.some 10, .none, .mv (.t 3)⟩, ⟨.some 11, .none, .bin .add (.t 10) (.c (.int .i64 1))⟩, ⟨.some 3, .none, .mv (.t 11)⟩])))))) (.seq (.rg false [⟨.some 47, .none, .mv (.t 0)⟩, ⟨.some 48, .none, .lenS (.t 47)⟩, ⟨.some 49, .none, .bin .gtr (.t 48) (.c (.int .i64 0))⟩, ⟨.some 50, .none, .mv (.t 49)⟩, ⟨.some 51, .some (50, true), .mv (.t 0)⟩, ⟨.some 52, .some (50, true), .lenS (.t 51)⟩, ⟨.some 53, .some (50, true), .bin .leq (.t 52) (.c (.int .i64 64))⟩, ⟨.some 54, .none, .pick (.t 50) (.t 53) (.c (.bool false))⟩, ⟨.some 2, .none, .mv (.t 54)⟩]) .ret))))
def d118 : Def := (.code 1 [.tmp 2] (.seq (.rg false [⟨.some 2, .none, .mv (.c (.bool false))⟩]) (.seq (.seq (.rg false [⟨.some 3, .none, .mv (.c (.int .i64 0))⟩]) (.block 0 (.loop (.seq (.seq (.rg false [⟨.some 4, .none, .mv (.t 3)⟩, ⟨.some 5, .none, .mv (.t 0)⟩, ⟨.some 6, .none, .lenS (.t 5)⟩, ⟨.some 7, .none, .bin .lss (.t 4) (.t 6)⟩]) (.cond (.t 7) .skip (.exit 0))) (.seq (.block 1 (.seq (.rg false [⟨.some 10, .none, .mv (.t 0)⟩, ⟨.some 11, .none, .mv (.t 3)⟩, ⟨.some 12, .none, .ix (.t 10) (.t 11)⟩, ⟨.some 13, .none, .bin .lss (.t 12) (.c (.int .u8 32))⟩, ⟨.some 14, .none, .mv (.t 13)⟩, ⟨.some 15, .some (14, false), .mv (.t 0)⟩, ⟨.some 16, .some (14, false), .mv (.t 3)⟩, ⟨.some 17, .some (14, false), .ix (.t 15) (.t 16)⟩, ⟨.some 18, .some (14, false), .bin .gtr (.t 17) (.c (.int .u8 126))⟩, ⟨.some 19, .none, .pick (.t 14) (.c (.bool true)) (.t 18)⟩]) (.cond (.t 19) (.seq (.rg false [⟨.some 2, .none, .mv (.c (.bool false))⟩]) .ret) .skip))) (.rg false [⟨.some 8, .none, .mv (.t 3)⟩, ⟨.some 9, .none, .bin .add (.t 8) (.c (.int .i64 1))⟩, ⟨.some 3, .none, .mv (.t 9)⟩])))))) (.seq (.rg false [⟨.some 20, .none, .mv (.t 0)⟩, ⟨.some 21, .none, .lenS (.t 20)⟩, ⟨.some 22, .none, .bin .gtr (.t 21) (.c (.int .i64 0))⟩, ⟨.some 23, .none, .mv (.t 22)⟩, ⟨.some 24, .some (23, true), .mv (.t 0)⟩, ⟨.some 25, .some (23, true), .lenS (.t 24)⟩, ⟨.some 26, .some (23, true), .bin .leq (.t 25) (.c (.int .i64 64))⟩, ⟨.some 27, .none, .pick (.t 23) (.t 26) (.c (.bool false))⟩, ⟨.some 2, .none, .mv (.t 27)⟩]) .ret))))
def d119 : Def := (.code 2 [.tmp 4] (.seq (.rg false [⟨.some 4, .none, .mv (.c (.bool false))⟩]) (.seq (.seq (.rg false [⟨.some 5, .none, .mv (.c (.int .i64 0))⟩]) (.block 0 (.loop (.seq (.seq (.rg false [⟨.some 6, .none, .mv (.t 5)⟩, ⟨.some 7, .none, .mv (.t 0)⟩, ⟨.some 8, .none, .lenS (.t 7)⟩, ⟨.some 9, .none, .bin .lss (.t 6) (.t 8)⟩, ⟨.some 10, .none, .mv (.t 9)⟩, ⟨.some 11, .some (10, true), .mv (.t 5)⟩, ⟨.some 12, .some (10, true), .mv (.t 1)⟩, ⟨.some 13, .some (10, true), .lenS (.t 12)⟩, ⟨.some 14, .some (10, true), .bin .lss (.t 11) (.t 13)⟩, ⟨.some 15, .none, .pick (.t 10) (.t 14) (.c (.bool false))⟩]) (.cond (.t 15) .skip (.exit 0))) (.seq (.block 1 (.seq (.rg true [⟨.some 18, .none, .mv (.t 0)⟩, ⟨.some 19, .none, .mv (.t 5)⟩, ⟨.some 20, .none, .ix (.t 18) (.t 19)⟩, ⟨.some 21, .none, .mv (.t 1)⟩, ⟨.some 22, .none, .mv (.t 5)⟩, ⟨.some 23, .none, .ix (.t 21) (.t 22)⟩, ⟨.some 24, .none, .bin .neq (.t 20) (.t 23)⟩]) (.cond (.t 24) (.seq (.rg true [⟨.some 25, .none, .mv (.t 0)⟩, ⟨.some 26, .none, .mv (.t 5)⟩, ⟨.some 27, .none, .ix (.t 25) (.t 26)⟩, ⟨.some 28, .none, .mv (.t 1)⟩, ⟨.some 29, .none, .mv (.t 5)⟩, ⟨.some 30, .none, .ix (.t 28) (.t 29)⟩, ⟨.some 31, .none, .bin .lss (.t 27) (.t 30)⟩, ⟨.some 4, .none, .mv (.t 31)⟩]) .ret) .skip))) (.rg false [⟨.some 16, .none, .mv (.t 5)⟩, ⟨.some 17, .none, .bin .add (.t 16) (.c (.int .i64 1))⟩, ⟨.some 5, .none, .mv (.t 17)⟩])))))) (.seq (.rg false [⟨.some 32, .none, .mv (.t 0)⟩, ⟨.some 33, .none, .lenS (.t 32)⟩, ⟨.some 34, .none, .mv (.t 1)⟩, ⟨.some 35, .none, .lenS (.t 34)⟩, ⟨.some 36, .none, .bin .lss (.t 33) (.t 35)⟩, ⟨.some 4, .none, .mv (.t 36)⟩]) .ret))))
def ll : List (Nat × Def) := [(30, d30)]
def ll0 : List (Nat × Def) := [(117, d117), (118, d118), (119, d119)]
section
variable {env : Nat → Option Def} {fr : Fr} {σ : St} {K : Fr → St → Prop} {Q : X → Fr → St → Prop}
theorem w_count {b : PC} (n : Nat) (J : Nat → Fr → St → Prop) (hb : ∀ i fr σ, i ≤ n → J i fr σ → Wp env b (fun x fr' σ' => match x with | .normal => i < n ∧ J (i + 1) fr' σ' | x => Q x fr' σ') fr σ) :
    ∀ fr σ, J 0 fr σ → Wp env (.loop b) Q fr σ := fun fr σ h0 => by
  refine w_loop (fun m fr σ => ∃ i, i ≤ n ∧ m = n - i ∧ J i fr σ) ?_ n fr σ ⟨0, Nat.zero_le _, rfl, h0⟩
  rintro m fr σ ⟨i, hi, rfl, hJ⟩
  refine (hb i fr σ hi hJ).mono ?_
  intro x fr' σ' h
  cases x with
  | normal => exact ⟨n - (i + 1), by omega, i + 1, h.1, rfl, h.2⟩
  | exit id => exact h
  | ret => exact h
theorem wrap_succ {i n : Nat} (h : i < n) (hn : n ≤ 9223372036854775807) : IntKind.i64.wrap ((i : Int) + 1) = ((i + 1 : Nat) : Int) := by
  rw [IntKind.wrap_i64]; omega
theorem less_at {l m : List UInt8} {i : Nat} {u v : UInt8} (h : ∀ j, j < i → l[j]? = m[j]?) (hl : l[i]? = some u) (hm : m[i]? = some v) (hne : u ≠ v) : Op.bytesLess l m = decide (u < v) := by
  induction i generalizing l m with
  | zero =>
    cases l with
    | nil => simp at hl
    | cons x l =>
      cases m with
      | nil => simp at hm
      | cons y m =>
        simp at hl hm
        subst hl; subst hm
        simp [Op.bytesLess, hne]
  | succ i ih =>
    cases l with
    | nil => simp at hl
    | cons x l =>
      cases m with
      | nil => simp at hm
      | cons y m =>
        have h0 := h 0 (by omega)
        simp at h0
        subst h0
        have := ih (l := l) (m := m) (fun j hj => by simpa using h (j + 1) (by omega)) (by simpa using hl) (by simpa using hm)
        simp only [Op.bytesLess, this]
        have hirr : ¬ x < x := UInt8.lt_irrefl x
        simp [hirr]
theorem less_end {l m : List UInt8} (h : ∀ j, j < min l.length m.length → l[j]? = m[j]?) : Op.bytesLess l m = decide (l.length < m.length) := by
  induction l generalizing m with
  | nil =>
    cases m with
    | nil => rfl
    | cons y m => simp [Op.bytesLess]
  | cons x l ih =>
    cases m with
    | nil => simp [Op.bytesLess]
    | cons y m =>
      have h0 := h 0 (by simp)
      simp at h0
      subst h0
      have := ih (m := m) (fun j hj => by simpa using h (j + 1) (by simp; omega))
      have hirr : ¬ x < x := UInt8.lt_irrefl x
      simp [Op.bytesLess, this, hirr]
def lessB (a b : ByteArray) : Bool := Op.bytesLess a.toList b.toList
theorem a119 (L : Has ll0 env) {a b : ByteArray} (hn : a.size ≤ 9223372036854775807) (hm : b.size ≤ 9223372036854775807) : AV env 119 [.sc (.string a), .sc (.string b)] = some (.sc (.bool (lessB a b))) := by
  refine AV_wp (L (119, d119) (by simp [ll0])) rfl ?_
  have ea : a.toList = a.data.toList := ByteArray.toList_eq a
  have eb : b.toList = b.data.toList := ByteArray.toList_eq b
  have la : a.data.toList.length = a.size := by simp
  have lb : b.data.toList.length = b.size := by simp
  (repeat' first
    | refine w_seq ?_ | refine w_rg ?_ | refine wo_nil ?_ | refine g_skU ?_ | refine g_skT ?_ | refine g_skF ?_
    | ((first | apply s_plain | apply s_void | apply s_guard | apply g_goT | apply g_goF); · simp only [go_sem, Nat.reduceEqDiff, Nat.reduceAdd, Nat.reduceLeDiff]; (first | done | rfl))
    | ((first | apply g_T | apply g_F | apply g_gT | apply g_gF); · intro q1_; (first | intro q2_ | have q2_ := q1_); simp only [go_sem, Nat.reduceEqDiff, Nat.reduceAdd, Nat.reduceLeDiff, q1_, q2_]; (first | done | rfl))
    | fail
    )
  refine w_block (w_count (min a.size b.size) (fun i fr σ => fr 0 = .sc (.string a) ∧ fr 1 = .sc (.string b) ∧ fr 5 = .sc (.int .i64 i) ∧ ∀ j, j < i → a.data.toList[j]? = b.data.toList[j]?) ?_ _ _ ?_)
  · rintro i fr σ hi ⟨h0, h1, h5, h2⟩
    by_cases hlt : i < min a.size b.size
    · have hd : decide ((i : Int) < (a.size : Int)) = true := by simp; omega
      have hd' : decide ((i : Int) < (b.size : Int)) = true := by simp; omega
      obtain ⟨u, hu, _⟩ := byte_get (s := a) (i := i) (by omega)
      obtain ⟨v, hv, _⟩ := byte_get (s := b) (i := i) (by omega)
      have e1 : (0 : Int) ≤ (i : Int) := by omega
      have e2 := wrap_succ (show i < a.size by omega) hn
      (repeat' first
    | refine w_seq ?_ | refine w_rg ?_ | refine wo_nil ?_ | refine g_skU ?_ | refine g_skT ?_ | refine g_skF ?_
    | ((first | apply s_plain | apply s_void | apply s_guard | apply g_goT | apply g_goF); · simp only [go_sem, Nat.reduceEqDiff, Nat.reduceAdd, Nat.reduceLeDiff, h0, h1, h5, hd, hd']; (first | done | rfl))
    | ((first | apply g_T | apply g_F | apply g_gT | apply g_gF); · intro q1_; (first | intro q2_ | have q2_ := q1_); simp only [go_sem, Nat.reduceEqDiff, Nat.reduceAdd, Nat.reduceLeDiff, h0, h1, h5, hd, hd', q1_, q2_]; (first | done | rfl))
    | (apply w_condX; · simp only [go_sem, Nat.reduceEqDiff, Nat.reduceAdd, Nat.reduceLeDiff, h0, h1, h5, hd, hd']; (first | done | rfl)); (first | refine wcd_T ?_ | refine wcd_F ?_)
    | refine w_skip ?_ | refine w_exit ?_ | refine w_ret ?_
    | fail
    )
      refine w_block ?_
      (repeat' first
    | refine w_seq ?_ | refine w_rg ?_ | refine wo_nil ?_ | refine g_skU ?_ | refine g_skT ?_ | refine g_skF ?_
    | ((first | apply s_plain | apply s_void | apply s_guard | apply g_goT | apply g_goF); · simp only [go_sem, Nat.reduceEqDiff, Nat.reduceAdd, Nat.reduceLeDiff, h0, h1, h5, e1, Int.toNat_natCast, hu, hv]; (first | done | rfl))
    | ((first | apply g_T | apply g_F | apply g_gT | apply g_gF); · intro q1_; (first | intro q2_ | have q2_ := q1_); simp only [go_sem, Nat.reduceEqDiff, Nat.reduceAdd, Nat.reduceLeDiff, h0, h1, h5, e1, Int.toNat_natCast, hu, hv, q1_, q2_]; (first | done | rfl))
    | fail
    )
      by_cases huv : u = v
      · have hc : ((u.toNat : Int) != (v.toNat : Int)) = false := by rw [huv]; simp
        (repeat' first
    | refine w_seq ?_ | refine w_rg ?_ | refine wo_nil ?_ | refine g_skU ?_ | refine g_skT ?_ | refine g_skF ?_
    | ((first | apply s_plain | apply s_void | apply s_guard | apply g_goT | apply g_goF); · simp only [go_sem, Nat.reduceEqDiff, Nat.reduceAdd, Nat.reduceLeDiff, hc, h5, e2]; (first | done | rfl))
    | ((first | apply g_T | apply g_F | apply g_gT | apply g_gF); · intro q1_; (first | intro q2_ | have q2_ := q1_); simp only [go_sem, Nat.reduceEqDiff, Nat.reduceAdd, Nat.reduceLeDiff, hc, h5, e2, q1_, q2_]; (first | done | rfl))
    | (apply w_condX; · simp only [go_sem, Nat.reduceEqDiff, Nat.reduceAdd, Nat.reduceLeDiff, hc, h5, e2]; (first | done | rfl)); (first | refine wcd_T ?_ | refine wcd_F ?_)
    | refine w_skip ?_ | refine w_exit ?_ | refine w_ret ?_
    | fail
    )
        refine ⟨hlt, ?_, ?_, ?_, fun j hj => ?_⟩
        · simp only [go_sem, Nat.reduceEqDiff, Nat.reduceAdd, Nat.reduceLeDiff, h0]
        · simp only [go_sem, Nat.reduceEqDiff, Nat.reduceAdd, Nat.reduceLeDiff, h1]
        · simp only [go_sem, Nat.reduceEqDiff, Nat.reduceAdd, Nat.reduceLeDiff]
        · by_cases hji : j = i
          · rw [hji, hu, hv, huv]
          · exact h2 j (by omega)
      · have hc : ((u.toNat : Int) != (v.toNat : Int)) = true := by
          simp only [bne_iff_ne, ne_eq]
          intro h
          exact huv (UInt8.toNat_inj.1 (by omega))
        (repeat' first
    | refine w_seq ?_ | refine w_rg ?_ | refine wo_nil ?_ | refine g_skU ?_ | refine g_skT ?_ | refine g_skF ?_
    | ((first | apply s_plain | apply s_void | apply s_guard | apply g_goT | apply g_goF); · simp only [go_sem, Nat.reduceEqDiff, Nat.reduceAdd, Nat.reduceLeDiff, hc, h0, h1, h5, e1, Int.toNat_natCast, hu, hv]; (first | done | rfl))
    | ((first | apply g_T | apply g_F | apply g_gT | apply g_gF); · intro q1_; (first | intro q2_ | have q2_ := q1_); simp only [go_sem, Nat.reduceEqDiff, Nat.reduceAdd, Nat.reduceLeDiff, hc, h0, h1, h5, e1, Int.toNat_natCast, hu, hv, q1_, q2_]; (first | done | rfl))
    | (apply w_condX; · simp only [go_sem, Nat.reduceEqDiff, Nat.reduceAdd, Nat.reduceLeDiff, hc, h0, h1, h5, e1, Int.toNat_natCast, hu, hv]; (first | done | rfl)); (first | refine wcd_T ?_ | refine wcd_F ?_)
    | refine w_skip ?_ | refine w_exit ?_ | refine w_ret ?_
    | fail
    )
        have hl := less_at h2 hu hv huv
        have hdd : decide ((u.toNat : Int) < (v.toNat : Int)) = decide (u < v) := by
          rw [decide_eq_decide, UInt8.lt_iff_toNat_lt]; omega
        exact ⟨.inr rfl, by simp only [go_sem, Nat.reduceEqDiff, Nat.reduceAdd, Nat.reduceLeDiff, retOf, resOf]; simp only [lessB, ea, eb, hl, hdd]⟩
    · have hin : i = min a.size b.size := by omega
      have hl := less_end (l := a.data.toList) (m := b.data.toList) (by rw [la, lb, ← hin]; exact h2)
      rw [la, lb] at hl
      have hdd : decide ((a.size : Int) < (b.size : Int)) = decide (a.size < b.size) := by rw [decide_eq_decide]; omega
      have fin : ∀ r : Bool, r = decide ((a.size : Int) < (b.size : Int)) → r = lessB a b := fun r hr => by rw [hr, hdd, ← hl, lessB, ea, eb]
      by_cases hda : i < a.size
      · have hd : decide ((i : Int) < (a.size : Int)) = true := by simp; omega
        have hd' : decide ((i : Int) < (b.size : Int)) = false := by simp; omega
        (repeat' first
    | refine w_seq ?_ | refine w_rg ?_ | refine wo_nil ?_ | refine g_skU ?_ | refine g_skT ?_ | refine g_skF ?_
    | ((first | apply s_plain | apply s_void | apply s_guard | apply g_goT | apply g_goF); · simp only [go_sem, Nat.reduceEqDiff, Nat.reduceAdd, Nat.reduceLeDiff, h0, h1, h5, hd, hd']; (first | done | rfl))
    | ((first | apply g_T | apply g_F | apply g_gT | apply g_gF); · intro q1_; (first | intro q2_ | have q2_ := q1_); simp only [go_sem, Nat.reduceEqDiff, Nat.reduceAdd, Nat.reduceLeDiff, h0, h1, h5, hd, hd', q1_, q2_]; (first | done | rfl))
    | (apply w_condX; · simp only [go_sem, Nat.reduceEqDiff, Nat.reduceAdd, Nat.reduceLeDiff, h0, h1, h5, hd, hd']; (first | done | rfl)); (first | refine wcd_T ?_ | refine wcd_F ?_)
    | refine w_skip ?_ | refine w_exit ?_ | refine w_ret ?_
    | fail
    )
        simp only [if_true]
        (repeat' first
    | refine w_seq ?_ | refine w_rg ?_ | refine wo_nil ?_ | refine g_skU ?_ | refine g_skT ?_ | refine g_skF ?_
    | ((first | apply s_plain | apply s_void | apply s_guard | apply g_goT | apply g_goF); · simp only [go_sem, Nat.reduceEqDiff, Nat.reduceAdd, Nat.reduceLeDiff, h0, h1]; (first | done | rfl))
    | ((first | apply g_T | apply g_F | apply g_gT | apply g_gF); · intro q1_; (first | intro q2_ | have q2_ := q1_); simp only [go_sem, Nat.reduceEqDiff, Nat.reduceAdd, Nat.reduceLeDiff, h0, h1, q1_, q2_]; (first | done | rfl))
    | (apply w_condX; · simp only [go_sem, Nat.reduceEqDiff, Nat.reduceAdd, Nat.reduceLeDiff, h0, h1]; (first | done | rfl)); (first | refine wcd_T ?_ | refine wcd_F ?_)
    | refine w_skip ?_ | refine w_exit ?_ | refine w_ret ?_
    | fail
    )
        exact ⟨by first | exact .inr rfl | exact .inr trivial, by simp only [go_sem, Nat.reduceEqDiff, Nat.reduceAdd, Nat.reduceLeDiff, retOf, resOf]; exact congrArg (fun b => some (PV.sc (.bool b))) (fin _ rfl)⟩
      · have hd : decide ((i : Int) < (a.size : Int)) = false := by simp; omega
        (repeat' first
    | refine w_seq ?_ | refine w_rg ?_ | refine wo_nil ?_ | refine g_skU ?_ | refine g_skT ?_ | refine g_skF ?_
    | ((first | apply s_plain | apply s_void | apply s_guard | apply g_goT | apply g_goF); · simp only [go_sem, Nat.reduceEqDiff, Nat.reduceAdd, Nat.reduceLeDiff, h0, h1, h5, hd]; (first | done | rfl))
    | ((first | apply g_T | apply g_F | apply g_gT | apply g_gF); · intro q1_; (first | intro q2_ | have q2_ := q1_); simp only [go_sem, Nat.reduceEqDiff, Nat.reduceAdd, Nat.reduceLeDiff, h0, h1, h5, hd, q1_, q2_]; (first | done | rfl))
    | (apply w_condX; · simp only [go_sem, Nat.reduceEqDiff, Nat.reduceAdd, Nat.reduceLeDiff, h0, h1, h5, hd]; (first | done | rfl)); (first | refine wcd_T ?_ | refine wcd_F ?_)
    | refine w_skip ?_ | refine w_exit ?_ | refine w_ret ?_
    | fail
    )
        simp only [if_true]
        (repeat' first
    | refine w_seq ?_ | refine w_rg ?_ | refine wo_nil ?_ | refine g_skU ?_ | refine g_skT ?_ | refine g_skF ?_
    | ((first | apply s_plain | apply s_void | apply s_guard | apply g_goT | apply g_goF); · simp only [go_sem, Nat.reduceEqDiff, Nat.reduceAdd, Nat.reduceLeDiff, h0, h1]; (first | done | rfl))
    | ((first | apply g_T | apply g_F | apply g_gT | apply g_gF); · intro q1_; (first | intro q2_ | have q2_ := q1_); simp only [go_sem, Nat.reduceEqDiff, Nat.reduceAdd, Nat.reduceLeDiff, h0, h1, q1_, q2_]; (first | done | rfl))
    | (apply w_condX; · simp only [go_sem, Nat.reduceEqDiff, Nat.reduceAdd, Nat.reduceLeDiff, h0, h1]; (first | done | rfl)); (first | refine wcd_T ?_ | refine wcd_F ?_)
    | refine w_skip ?_ | refine w_exit ?_ | refine w_ret ?_
    | fail
    )
        exact ⟨by first | exact .inr rfl | exact .inr trivial, by simp only [go_sem, Nat.reduceEqDiff, Nat.reduceAdd, Nat.reduceLeDiff, retOf, resOf]; exact congrArg (fun b => some (PV.sc (.bool b))) (fin _ rfl)⟩
  · refine ⟨?_, ?_, ?_, fun j hj => by omega⟩
    · simp only [go_sem, Nat.reduceEqDiff, Nat.reduceAdd, Nat.reduceLeDiff]
    · simp only [go_sem, Nat.reduceEqDiff, Nat.reduceAdd, Nat.reduceLeDiff]
    · simp only [go_sem, Nat.reduceEqDiff, Nat.reduceAdd, Nat.reduceLeDiff]; (first | done | rfl)
end

section
variable {env : Nat → Option Def} {fr : Fr} {σ : St} {K : Fr → St → Prop}
theorem found_lt {p : Nat → Bool} {n : Nat} (h : ¬ found p n < 0) : ∃ i : Nat, found p n = i ∧ i < n := by
  unfold found at h ⊢
  cases hf : (List.range n).find? p with
  | none => rw [hf] at h; simp at h
  | some i =>
    have := List.mem_of_find?_eq_some hf
    exact ⟨i, rfl, by simpa using this⟩
def isN (l : List Lab) (n : ByteArray) (i : Nat) : Bool := (nth l i).1.toList == n.toList
def getB (l : List Lab) (n : ByteArray) : ByteArray := if found (isN l n) l.length < 0 then ⟨#[]⟩ else (nth l (found (isN l n) l.length).toNat).2
theorem a114 (G : Has lc env) {l : List Lab} {n : ByteArray} (hn : l.length ≤ 9223372036854775807) : AV env 114 [.sl (labs l), .sc (.string n)] = some (.sc (.string (getB l n))) := by
  have h121 := a121 G (l := l) (k := 122) (a := []) (b := [.fp [.sc (.string n)] 0 0]) (p := isN l n) hn (fun m σ => rfl) (fun i m hm => by
    have := a122 G (m := m) (n := n) (xs := [.sc (.string n)]) rfl
    have e : nth l i = m := by unfold nth; rw [hm]; rfl
    rw [isN, e]
    exact this)
  refine AV_wp (G (114, d114) (by simp [lc])) rfl ?_
  have hll := labs_len l
  (repeat' first
    | refine w_seq ?_ | refine w_rg ?_ | refine wo_nil ?_ | refine g_skU ?_ | refine g_skT ?_ | refine g_skF ?_
    | ((first | apply s_plain | apply s_void | apply s_guard | apply g_goT | apply g_goF); · simp only [go_sem, Nat.reduceEqDiff, Nat.reduceAdd, Nat.reduceLeDiff, h121]; (first | done | rfl))
    | ((first | apply g_T | apply g_F | apply g_gT | apply g_gF); · intro q1_; (first | intro q2_ | have q2_ := q1_); simp only [go_sem, Nat.reduceEqDiff, Nat.reduceAdd, Nat.reduceLeDiff, h121, q1_, q2_]; (first | done | rfl))
    | fail
    )
  by_cases hlt : found (isN l n) l.length < 0
  · (repeat' first
    | refine w_seq ?_ | refine w_rg ?_ | refine wo_nil ?_ | refine g_skU ?_ | refine g_skT ?_ | refine g_skF ?_
    | ((first | apply s_plain | apply s_void | apply s_guard | apply g_goT | apply g_goF); · simp only [go_sem, Nat.reduceEqDiff, Nat.reduceAdd, Nat.reduceLeDiff, hlt, decide_true]; (first | done | rfl))
    | ((first | apply g_T | apply g_F | apply g_gT | apply g_gF); · intro q1_; (first | intro q2_ | have q2_ := q1_); simp only [go_sem, Nat.reduceEqDiff, Nat.reduceAdd, Nat.reduceLeDiff, hlt, decide_true, q1_, q2_]; (first | done | rfl))
    | (apply w_condX; · simp only [go_sem, Nat.reduceEqDiff, Nat.reduceAdd, Nat.reduceLeDiff, hlt, decide_true]; (first | done | rfl)); (first | refine wcd_T ?_ | refine wcd_F ?_)
    | refine w_skip ?_ | refine w_exit ?_ | refine w_ret ?_
    | fail
    )
    exact ⟨.inr rfl, by simp only [go_sem, Nat.reduceEqDiff, Nat.reduceAdd, Nat.reduceLeDiff, retOf, resOf]; simp [getB, hlt]⟩
  · (repeat' first
    | refine w_seq ?_ | refine w_rg ?_ | refine wo_nil ?_ | refine g_skU ?_ | refine g_skT ?_ | refine g_skF ?_
    | ((first | apply s_plain | apply s_void | apply s_guard | apply g_goT | apply g_goF); · simp only [go_sem, Nat.reduceEqDiff, Nat.reduceAdd, Nat.reduceLeDiff, hlt, decide_false]; (first | done | rfl))
    | ((first | apply g_T | apply g_F | apply g_gT | apply g_gF); · intro q1_; (first | intro q2_ | have q2_ := q1_); simp only [go_sem, Nat.reduceEqDiff, Nat.reduceAdd, Nat.reduceLeDiff, hlt, decide_false, q1_, q2_]; (first | done | rfl))
    | (apply w_condX; · simp only [go_sem, Nat.reduceEqDiff, Nat.reduceAdd, Nat.reduceLeDiff, hlt, decide_false]; (first | done | rfl)); (first | refine wcd_T ?_ | refine wcd_F ?_)
    | refine w_skip ?_ | refine w_exit ?_ | refine w_ret ?_
    | fail
    )
    obtain ⟨i, hi, hil⟩ := found_lt hlt
    have hx : l[i]? = some (nth l i) := by unfold nth; rw [List.getElem?_eq_getElem hil]; rfl
    have hy := labs_at hx
    simp only [lab] at hy
    have e1 : (0 : Int) ≤ (i : Int) ∧ (i : Int) < (l.length : Int) := by omega
    (repeat' first
    | refine w_seq ?_ | refine w_rg ?_ | refine wo_nil ?_ | refine g_skU ?_ | refine g_skT ?_ | refine g_skF ?_
    | ((first | apply s_plain | apply s_void | apply s_guard | apply g_goT | apply g_goF); · simp only [go_sem, Nat.reduceEqDiff, Nat.reduceAdd, Nat.reduceLeDiff, hi, hy, hll, e1, Int.toNat_natCast]; (first | done | rfl))
    | ((first | apply g_T | apply g_F | apply g_gT | apply g_gF); · intro q1_; (first | intro q2_ | have q2_ := q1_); simp only [go_sem, Nat.reduceEqDiff, Nat.reduceAdd, Nat.reduceLeDiff, hi, hy, hll, e1, Int.toNat_natCast, q1_, q2_]; (first | done | rfl))
    | (apply w_condX; · simp only [go_sem, Nat.reduceEqDiff, Nat.reduceAdd, Nat.reduceLeDiff, hi, hy, hll, e1, Int.toNat_natCast]; (first | done | rfl)); (first | refine wcd_T ?_ | refine wcd_F ?_)
    | refine w_skip ?_ | refine w_exit ?_ | refine w_ret ?_
    | fail
    )
    have e2 : ¬ ((i : Int) < 0) := by omega
    exact ⟨.inr rfl, by simp only [go_sem, Nat.reduceEqDiff, Nat.reduceAdd, Nat.reduceLeDiff, retOf, resOf]; simp [getB, hi, e2]⟩
end

def d68 : Def := (.code 2 [.tmp 4] (.seq (.rg false [⟨.some 4, .none, .mv (.c (.int .i64 0))⟩]) (.seq (.seq (.rg false [⟨.some 6, .none, .mv (.t 0)⟩, ⟨.some 7, .none, .lenL (.t 6)⟩, ⟨.some 8, .none, .mv (.c (.int .i64 0))⟩]) (.block 0 (.loop (.seq (.rg false [⟨.some 9, .none, .bin .lss (.t 8) (.t 7)⟩]) (.seq (.cond (.t 9) .skip (.exit 0)) (.seq (.block 1 (.seq (.rg false [⟨.some 10, .none, .mv (.t 8)⟩, ⟨.some 5, .none, .mv (.t 10)⟩]) (.seq (.rg false [⟨.some 11, .none, .mv (.t 1)⟩, ⟨.some 12, .none, .mv (.t 0)⟩, ⟨.some 13, .none, .mv (.t 5)⟩, ⟨.some 14, .none, .ia 1 (.t 12) (.t 13)⟩, ⟨.some 15, .none, .ld .none (.t 14)⟩, ⟨.some 16, .none, .callv (.t 11) .pure [.t 15]⟩]) (.cond (.t 16) (.seq (.rg false [⟨.some 17, .none, .mv (.t 5)⟩, ⟨.some 4, .none, .mv (.t 17)⟩]) .ret) .skip)))) (.rg false [⟨.some 18, .none, .bin .add (.t 8) (.c (.int .i64 1))⟩, ⟨.some 8, .none, .mv (.t 18)⟩]))))))) (.seq (.rg false [⟨.some 4, .none, .mv (.c (.int .i64 (-1)))⟩]) .ret))))
def d51 : Def := (.code 2 [.tmp 4] (.seq (.rg false [⟨.some 4, .none, .mv (.c (.bool false))⟩]) (.seq (.rg false [⟨.some 5, .none, .mv (.t 0)⟩, ⟨.some 6, .none, .mv (.t 1)⟩, ⟨.some 7, .none, .call 68 .pure [.t 5, .t 6]⟩, ⟨.some 8, .none, .bin .geq (.t 7) (.c (.int .i64 0))⟩, ⟨.some 4, .none, .mv (.t 8)⟩]) .ret)))
def d29 : Def := (.code 1 [.tmp 2] (.seq (.rg false [⟨.some 1, .none, .box (.t 0)⟩, ⟨.some 2, .none, .mv (.c (.bool false))⟩]) (.seq (.seq (.rg false [⟨.some 5, .none, .fa 1 (.t 1)⟩, ⟨.some 6, .none, .ld .none (.t 5)⟩, ⟨.some 7, .none, .lenL (.t 6)⟩, ⟨.some 8, .none, .mv (.c (.int .i64 0))⟩]) (.block 0 (.loop (.seq (.rg false [⟨.some 9, .none, .bin .lss (.t 8) (.t 7)⟩]) (.seq (.cond (.t 9) .skip (.exit 0)) (.seq (.block 1 (.seq (.rg false [⟨.some 10, .none, .mv (.t 8)⟩, ⟨.some 11, .none, .ia 1 (.t 6) (.t 8)⟩, ⟨.some 12, .none, .ld .none (.t 11)⟩, ⟨.some 3, .none, .mv (.t 10)⟩, ⟨.some 4, .none, .mv (.t 12)⟩]) (.seq (.rg false [⟨.some 13, .none, .mv (.t 4)⟩, ⟨.some 14, .none, .call 49 .pure [.t 13]⟩, ⟨.some 15, .none, .un .not (.t 14)⟩, ⟨.some 16, .none, .mv (.t 15)⟩, ⟨.some 17, .some (16, false), .fa 1 (.t 1)⟩, ⟨.some 18, .some (16, false), .ld .none (.t 17)⟩, ⟨.some 19, .some (16, false), .mv (.t 3)⟩, ⟨.some 20, .some (16, false), .slcL 1 (.t 18) .none (.some (.t 19))⟩, ⟨.some 21, .some (16, false), .mv (.t 4)⟩, ⟨.some 22, .some (16, false), .call 50 .pure [.t 20, .t 21]⟩, ⟨.some 23, .none, .pick (.t 16) (.c (.bool true)) (.t 22)⟩]) (.cond (.t 23) (.seq (.rg false [⟨.some 2, .none, .mv (.c (.bool false))⟩]) .ret) .skip)))) (.rg false [⟨.some 24, .none, .bin .add (.t 8) (.c (.int .i64 1))⟩, ⟨.some 8, .none, .mv (.t 24)⟩]))))))) (.seq (.rg false [⟨.some 25, .none, .fa 0 (.t 1)⟩, ⟨.some 26, .none, .ld .none (.t 25)⟩, ⟨.some 27, .none, .call 49 .pure [.t 26]⟩, ⟨.some 28, .none, .mv (.t 27)⟩, ⟨.some 29, .some (28, true), .fa 1 (.t 1)⟩, ⟨.some 30, .some (28, true), .ld .none (.t 29)⟩, ⟨.some 31, .some (28, true), .lenL (.t 30)⟩, ⟨.some 32, .some (28, true), .bin .leq (.t 31) (.c (.int .i64 64))⟩, ⟨.some 33, .none, .pick (.t 28) (.t 32) (.c (.bool false))⟩, ⟨.some 34, .none, .mv (.t 33)⟩, ⟨.some 35, .some (34, true), .fa 1 (.t 1)⟩, ⟨.some 36, .some (34, true), .ld .none (.t 35)⟩, ⟨.some 37, .some (34, true), .lenL (.t 36)⟩, ⟨.some 38, .some (34, true), .fa 2 (.t 1)⟩, ⟨.some 39, .some (34, true), .ld .none (.t 38)⟩, ⟨.some 40, .some (34, true), .lenL (.t 39)⟩, ⟨.some 41, .some (34, true), .bin .eql (.t 37) (.t 40)⟩, ⟨.some 42, .none, .pick (.t 34) (.t 41) (.c (.bool false))⟩, ⟨.some 43, .none, .mv (.t 42)⟩, ⟨.some 44, .some (43, true), .fa 2 (.t 1)⟩, ⟨.some 45, .some (43, true), .ld .none (.t 44)⟩, ⟨.some 46, .some (43, true), .call 51 .pure [.t 45, .f 52]⟩, ⟨.some 47, .some (43, true), .un .not (.t 46)⟩, ⟨.some 48, .none, .pick (.t 43) (.t 47) (.c (.bool false))⟩, ⟨.some 2, .none, .mv (.t 48)⟩]) .ret))))
def d28 : Def := (.code 1 [.tmp 2] (.seq (.rg false [⟨.some 1, .none, .box (.t 0)⟩, ⟨.some 2, .none, .mv (.c (.bool false))⟩]) (.seq (.rg false [⟨.some 3, .none, .ld (.some 3) (.t 1)⟩, ⟨.some 4, .none, .call 29 .pure [.t 3]⟩, ⟨.some 5, .none, .un .not (.t 4)⟩, ⟨.some 2, .none, .mv (.t 5)⟩]) .ret)))
def d48 : Def := (.code 2 [.tmp 4] (.seq (.rg false [⟨.some 4, .none, .mv (.c (.int .i64 0))⟩]) (.seq (.seq (.rg false [⟨.some 6, .none, .mv (.t 0)⟩, ⟨.some 7, .none, .lenL (.t 6)⟩, ⟨.some 8, .none, .mv (.c (.int .i64 0))⟩]) (.block 0 (.loop (.seq (.rg false [⟨.some 9, .none, .bin .lss (.t 8) (.t 7)⟩]) (.seq (.cond (.t 9) .skip (.exit 0)) (.seq (.block 1 (.seq (.rg false [⟨.some 10, .none, .mv (.t 8)⟩, ⟨.some 5, .none, .mv (.t 10)⟩]) (.seq (.rg false [⟨.some 11, .none, .mv (.t 1)⟩, ⟨.some 12, .none, .mv (.t 0)⟩, ⟨.some 13, .none, .mv (.t 5)⟩, ⟨.some 14, .none, .ia 3 (.t 12) (.t 13)⟩, ⟨.some 15, .none, .ld (.some 3) (.t 14)⟩, ⟨.some 16, .none, .callv (.t 11) .pure [.t 15]⟩]) (.cond (.t 16) (.seq (.rg false [⟨.some 17, .none, .mv (.t 5)⟩, ⟨.some 4, .none, .mv (.t 17)⟩]) .ret) .skip)))) (.rg false [⟨.some 18, .none, .bin .add (.t 8) (.c (.int .i64 1))⟩, ⟨.some 8, .none, .mv (.t 18)⟩]))))))) (.seq (.rg false [⟨.some 4, .none, .mv (.c (.int .i64 (-1)))⟩]) .ret))))
def d27 : Def := (.code 2 [.tmp 4] (.seq (.rg false [⟨.some 4, .none, .mv (.c (.bool false))⟩]) (.seq (.rg false [⟨.some 5, .none, .mv (.t 0)⟩, ⟨.some 6, .none, .mv (.t 1)⟩, ⟨.some 7, .none, .call 48 .pure [.t 5, .t 6]⟩, ⟨.some 8, .none, .bin .geq (.t 7) (.c (.int .i64 0))⟩, ⟨.some 4, .none, .mv (.t 8)⟩]) .ret)))
def d9 : Def := (.code 1 [.tmp 2] (.seq (.rg false [⟨.some 2, .none, .mv (.c (.bool false))⟩]) (.seq (.rg false [⟨.some 3, .none, .mv (.t 0)⟩, ⟨.some 4, .none, .lenL (.t 3)⟩, ⟨.some 5, .none, .bin .leq (.t 4) (.c (.int .i64 64))⟩, ⟨.some 6, .none, .mv (.t 5)⟩, ⟨.some 7, .some (6, true), .mv (.t 0)⟩, ⟨.some 8, .some (6, true), .call 27 .pure [.t 7, .f 28]⟩, ⟨.some 9, .some (6, true), .un .not (.t 8)⟩, ⟨.some 10, .none, .pick (.t 6) (.t 9) (.c (.bool false))⟩, ⟨.some 2, .none, .mv (.t 10)⟩]) .ret)))
def d111 : Def := (.code 1 [.tmp 2] (.seq (.rg false [⟨.some 2, .none, .mv (.c (.bool false))⟩]) (.seq (.rg false [⟨.some 3, .none, .mv (.t 0)⟩, ⟨.some 4, .none, .build (.agg #[.string ⟨#[]⟩, .slice .none 0 0, .slice .none 0 0]) [(0, (1, .t 3))]⟩, ⟨.some 5, .none, .bsl 3 (.agg #[.string ⟨#[]⟩, .slice .none 0 0, .slice .none 0 0]) 1 [(0, .t 4)]⟩, ⟨.some 6, .none, .call 9 .pure [.t 5]⟩, ⟨.some 2, .none, .mv (.t 6)⟩]) .ret)))
def lf0 : List (Nat × Def) := [(68, d68), (51, d51), (29, d29), (28, d28), (48, d48), (27, d27), (9, d9)]
def lf : List (Nat × Def) := [(68, d68), (51, d51), (29, d29), (28, d28), (48, d48), (27, d27), (9, d9), (111, d111)]
section
variable {env : Nat → Option Def} {fr : Fr} {σ : St} {K : Fr → St → Prop}
theorem lf_lf0 (F : Has lf env) : Has lf0 env := fun p hp => F p (by
  simp only [lf, lf0, List.mem_cons, List.not_mem_nil, or_false] at hp ⊢
  rcases hp with h | h | h | h | h | h | h <;> simp [h])
theorem a51e (F : Has lf0 env) {k : Nat} : AV env 51 [.sl [], .fn k [] []] = some (.sc (.bool false)) := by
  have h68 : AV env 68 [.sl [], .fn k [] []] = some (.sc (.int .i64 (-1))) := a85g (xs := []) (p := fun _ => false) (F (68, d68) (by simp [lf0])) (by simp) (fun i e h => by simp at h) (fun i e h => by simp at h) (fun i e h => by simp at h)
  refine AV_wp (F (51, d51) (by simp [lf0])) rfl ?_
  (repeat' first
    | refine w_seq ?_ | refine w_rg ?_ | refine wo_nil ?_ | refine g_skU ?_ | refine g_skT ?_ | refine g_skF ?_
    | ((first | apply s_plain | apply s_void | apply s_guard | apply g_goT | apply g_goF); · simp only [go_sem, Nat.reduceEqDiff, Nat.reduceAdd, Nat.reduceLeDiff, h68]; (first | done | rfl))
    | ((first | apply g_T | apply g_F | apply g_gT | apply g_gF); · intro q1_; (first | intro q2_ | have q2_ := q1_); simp only [go_sem, Nat.reduceEqDiff, Nat.reduceAdd, Nat.reduceLeDiff, h68, q1_, q2_]; (first | done | rfl))
    | (apply w_condX; · simp only [go_sem, Nat.reduceEqDiff, Nat.reduceAdd, Nat.reduceLeDiff, h68]; (first | done | rfl)); (first | refine wcd_T ?_ | refine wcd_F ?_)
    | refine w_skip ?_ | refine w_exit ?_ | refine w_ret ?_
    | fail
    )
  exact ⟨.inr rfl, by simp only [go_sem, Nat.reduceEqDiff, Nat.reduceAdd, Nat.reduceLeDiff, retOf, resOf]; rfl⟩
def bare (s : ByteArray) : PV := .agg [.sc (.string s), .sl [], .sl []]
theorem a29e (H : Has law env) (F : Has lf0 env) {s : ByteArray} (hs : Small s) : AV env 29 [bare s] = some (.sc (.bool (wordB s))) := by
  have h49 := a49 H hs
  have h51 := a51e F (k := 52)
  refine AV_wp (F (29, d29) (by simp [lf0])) rfl ?_
  unfold bare
  (repeat' first
    | refine w_seq ?_ | refine w_rg ?_ | refine wo_nil ?_ | refine g_skU ?_ | refine g_skT ?_ | refine g_skF ?_
    | ((first | apply s_plain | apply s_void | apply s_guard | apply g_goT | apply g_goF); · simp only [go_sem, Nat.reduceEqDiff, Nat.reduceAdd, Nat.reduceLeDiff]; (first | done | rfl))
    | ((first | apply g_T | apply g_F | apply g_gT | apply g_gF); · intro q1_; (first | intro q2_ | have q2_ := q1_); simp only [go_sem, Nat.reduceEqDiff, Nat.reduceAdd, Nat.reduceLeDiff, q1_, q2_]; (first | done | rfl))
    | fail
    )
  refine w_block (w_range 0 (by omega) (fun i fr σ => fr 1 = .bx 2000001 0 3 0 0 ∧ σ.m 2000001 0 = some ⟨3, [.agg [.sc (.string s), .sl [], .sl []]], true, true⟩) (by decide) ?_ ?_ ?_ _ _ ?_ ?_ ?_)
  · rintro i fr σ v ⟨h1, h2⟩
    refine ⟨⟨?_, h2⟩, ⟨?_, h2⟩, ⟨?_, h2⟩⟩ <;> simp only [go_sem, Nat.reduceEqDiff, Nat.reduceAdd, Nat.reduceLeDiff, h1]
  · rintro i fr σ hi
    omega
  · rintro fr σ ⟨h1, h2⟩
    simp only [if_true]
    (repeat' first
    | refine w_seq ?_ | refine w_rg ?_ | refine wo_nil ?_ | refine g_skU ?_ | refine g_skT ?_ | refine g_skF ?_
    | ((first | apply s_plain | apply s_void | apply s_guard | apply g_goT | apply g_goF); · simp only [go_sem, Nat.reduceEqDiff, Nat.reduceAdd, Nat.reduceLeDiff, h1, h2, h49, h51]; (first | done | rfl))
    | ((first | apply g_T | apply g_F | apply g_gT | apply g_gF); · intro q1_; (first | intro q2_ | have q2_ := q1_); simp only [go_sem, Nat.reduceEqDiff, Nat.reduceAdd, Nat.reduceLeDiff, h1, h2, h49, h51, q1_, q2_]; (first | done | rfl))
    | (apply w_condX; · simp only [go_sem, Nat.reduceEqDiff, Nat.reduceAdd, Nat.reduceLeDiff, h1, h2, h49, h51]; (first | done | rfl)); (first | refine wcd_T ?_ | refine wcd_F ?_)
    | refine w_skip ?_ | refine w_exit ?_ | refine w_ret ?_
    | fail
    )
    refine ⟨.inr rfl, ?_⟩
    simp only [go_sem, Nat.reduceEqDiff, Nat.reduceAdd, Nat.reduceLeDiff, retOf, resOf]
    cases wordB s <;> rfl
  · exact ⟨by simp only [go_sem, Nat.reduceEqDiff, Nat.reduceAdd, Nat.reduceLeDiff], by simp only [go_sem, Nat.reduceEqDiff, Nat.reduceAdd, Nat.reduceLeDiff]⟩
  · simp only [go_sem, Nat.reduceEqDiff, Nat.reduceAdd, Nat.reduceLeDiff]
  · simp only [go_sem, Nat.reduceEqDiff, Nat.reduceAdd, Nat.reduceLeDiff]
    try rfl
theorem a28e (H : Has law env) (F : Has lf0 env) {s : ByteArray} (hs : Small s) : AV env 28 [bare s] = some (.sc (.bool (!wordB s))) := by
  have h29 := a29e H F hs
  refine AV_wp (F (28, d28) (by simp [lf0])) rfl ?_
  unfold bare at h29 ⊢
  (repeat' first
    | refine w_seq ?_ | refine w_rg ?_ | refine wo_nil ?_ | refine g_skU ?_ | refine g_skT ?_ | refine g_skF ?_
    | ((first | apply s_plain | apply s_void | apply s_guard | apply g_goT | apply g_goF); · simp only [go_sem, Nat.reduceEqDiff, Nat.reduceAdd, Nat.reduceLeDiff, h29]; (first | done | rfl))
    | ((first | apply g_T | apply g_F | apply g_gT | apply g_gF); · intro q1_; (first | intro q2_ | have q2_ := q1_); simp only [go_sem, Nat.reduceEqDiff, Nat.reduceAdd, Nat.reduceLeDiff, h29, q1_, q2_]; (first | done | rfl))
    | (apply w_condX; · simp only [go_sem, Nat.reduceEqDiff, Nat.reduceAdd, Nat.reduceLeDiff, h29]; (first | done | rfl)); (first | refine wcd_T ?_ | refine wcd_F ?_)
    | refine w_skip ?_ | refine w_exit ?_ | refine w_ret ?_
    | fail
    )
  exact ⟨.inr rfl, by simp only [go_sem, Nat.reduceEqDiff, Nat.reduceAdd, Nat.reduceLeDiff, retOf, resOf]⟩
theorem a48g (F : Has lf0 env) {xs : List PV} {k : Nat} {a b : List PV} {p : Nat → Bool} (hn : xs.length ≤ 9223372036854775807) (h1 : ∀ (i : Nat) e, xs[i]? = some e → ∃ c0 c1 c2, e = .agg [c0, c1, c2])
    (hz : ∀ (i : Nat) e, xs[i]? = some e → ∀ σ, (a ++ [e] ++ b).mapM (fz σ 12) = some (a ++ [e] ++ b)) (hp : ∀ (i : Nat) e, xs[i]? = some e → AV env k (a ++ [e] ++ b) = some (.sc (.bool (p i)))) :
    AV env 48 [.sl xs, .fn k a b] = some (.sc (.int .i64 (found p xs.length))) := by
  refine AV_wp (F (48, d48) (by simp [lf0])) rfl ?_
  (repeat' first
    | refine w_seq ?_ | refine w_rg ?_ | refine wo_nil ?_ | refine g_skU ?_ | refine g_skT ?_ | refine g_skF ?_
    | ((first | apply s_plain | apply s_void | apply s_guard | apply g_goT | apply g_goF); · simp only [go_sem, Nat.reduceEqDiff, Nat.reduceAdd, Nat.reduceLeDiff]; (first | done | rfl))
    | ((first | apply g_T | apply g_F | apply g_gT | apply g_gF); · intro q1_; (first | intro q2_ | have q2_ := q1_); simp only [go_sem, Nat.reduceEqDiff, Nat.reduceAdd, Nat.reduceLeDiff, q1_, q2_]; (first | done | rfl))
    | fail
    )
  refine w_block (w_range xs.length hn (fun i fr σ => fr 0 = .sl xs ∧ fr 1 = .fn k a b ∧ ∀ j, j < i → p j = false) (by decide) ?_ ?_ ?_ _ _ ?_ ?_ ?_)
  · rintro i fr σ v ⟨h0, h1, h2⟩
    refine ⟨⟨?_, ?_, h2⟩, ⟨?_, ?_, h2⟩, ⟨?_, ?_, h2⟩⟩ <;> simp only [go_sem, Nat.reduceEqDiff, Nat.reduceAdd, Nat.reduceLeDiff, h0, h1]
  · rintro i fr σ hi ⟨h0, h2, h3⟩ hti htn
    have hx := List.getElem?_eq_getElem hi
    obtain ⟨c0, c1, c2, hc⟩ := h1 i _ hx
    have hz' := hz i _ hx
    have hp' := hp i _ hx
    rw [hc] at hx hz' hp'
    have e1 : (0 : Int) ≤ (i : Int) ∧ (i : Int) < (xs.length : Int) := by omega
    refine w_block ?_
    simp only [List.append_assoc, List.cons_append, List.nil_append] at hz' hp'
    (repeat' first
    | refine w_seq ?_ | refine w_rg ?_ | refine wo_nil ?_ | refine g_skU ?_ | refine g_skT ?_ | refine g_skF ?_
    | ((first | apply s_plain | apply s_void | apply s_guard | apply g_goT | apply g_goF); · simp only [go_sem, Nat.reduceEqDiff, Nat.reduceAdd, Nat.reduceLeDiff, h0, h2, hti, e1, Int.toNat_natCast, hx, List.append_assoc, hz', hp']; (first | done | rfl))
    | ((first | apply g_T | apply g_F | apply g_gT | apply g_gF); · intro q1_; (first | intro q2_ | have q2_ := q1_); simp only [go_sem, Nat.reduceEqDiff, Nat.reduceAdd, Nat.reduceLeDiff, h0, h2, hti, e1, Int.toNat_natCast, hx, List.append_assoc, hz', hp', q1_, q2_]; (first | done | rfl))
    | fail
    )
    cases hpi : p i with
    | true =>
      (repeat' first
    | refine w_seq ?_ | refine w_rg ?_ | refine wo_nil ?_ | refine g_skU ?_ | refine g_skT ?_ | refine g_skF ?_
    | ((first | apply s_plain | apply s_void | apply s_guard | apply g_goT | apply g_goF); · simp only [go_sem, Nat.reduceEqDiff, Nat.reduceAdd, Nat.reduceLeDiff]; (first | done | rfl))
    | ((first | apply g_T | apply g_F | apply g_gT | apply g_gF); · intro q1_; (first | intro q2_ | have q2_ := q1_); simp only [go_sem, Nat.reduceEqDiff, Nat.reduceAdd, Nat.reduceLeDiff, q1_, q2_]; (first | done | rfl))
    | (apply w_condX; · simp only [go_sem, Nat.reduceEqDiff, Nat.reduceAdd, Nat.reduceLeDiff]; (first | done | rfl)); (first | refine wcd_T ?_ | refine wcd_F ?_)
    | refine w_skip ?_ | refine w_exit ?_ | refine w_ret ?_
    | fail
    )
      exact ⟨.inr rfl, by simp only [go_sem, Nat.reduceEqDiff, Nat.reduceAdd, Nat.reduceLeDiff, retOf, resOf, found_hit hi h3 hpi]⟩
    | false =>
      (repeat' first
    | refine w_seq ?_ | refine w_rg ?_ | refine wo_nil ?_ | refine g_skU ?_ | refine g_skT ?_ | refine g_skF ?_
    | ((first | apply s_plain | apply s_void | apply s_guard | apply g_goT | apply g_goF); · simp only [go_sem, Nat.reduceEqDiff, Nat.reduceAdd, Nat.reduceLeDiff]; (first | done | rfl))
    | ((first | apply g_T | apply g_F | apply g_gT | apply g_gF); · intro q1_; (first | intro q2_ | have q2_ := q1_); simp only [go_sem, Nat.reduceEqDiff, Nat.reduceAdd, Nat.reduceLeDiff, q1_, q2_]; (first | done | rfl))
    | (apply w_condX; · simp only [go_sem, Nat.reduceEqDiff, Nat.reduceAdd, Nat.reduceLeDiff]; (first | done | rfl)); (first | refine wcd_T ?_ | refine wcd_F ?_)
    | refine w_skip ?_ | refine w_exit ?_ | refine w_ret ?_
    | fail
    )
      refine ⟨⟨?_, ?_, fun j hj => ?_⟩, ?_, ?_⟩
      · simp only [go_sem, Nat.reduceEqDiff, Nat.reduceAdd, Nat.reduceLeDiff, h0]
      · simp only [go_sem, Nat.reduceEqDiff, Nat.reduceAdd, Nat.reduceLeDiff, h2]
      · by_cases hji : j = i
        · rw [hji]; exact hpi
        · exact h3 j (by omega)
      · simp only [go_sem, Nat.reduceEqDiff, Nat.reduceAdd, Nat.reduceLeDiff, hti]
      · simp only [go_sem, Nat.reduceEqDiff, Nat.reduceAdd, Nat.reduceLeDiff, htn]
  · rintro fr σ ⟨h0, h2, h3⟩
    simp only [if_true]
    (repeat' first
    | refine w_seq ?_ | refine w_rg ?_ | refine wo_nil ?_ | refine g_skU ?_ | refine g_skT ?_ | refine g_skF ?_
    | ((first | apply s_plain | apply s_void | apply s_guard | apply g_goT | apply g_goF); · simp only [go_sem, Nat.reduceEqDiff, Nat.reduceAdd, Nat.reduceLeDiff]; (first | done | rfl))
    | ((first | apply g_T | apply g_F | apply g_gT | apply g_gF); · intro q1_; (first | intro q2_ | have q2_ := q1_); simp only [go_sem, Nat.reduceEqDiff, Nat.reduceAdd, Nat.reduceLeDiff, q1_, q2_]; (first | done | rfl))
    | (apply w_condX; · simp only [go_sem, Nat.reduceEqDiff, Nat.reduceAdd, Nat.reduceLeDiff]; (first | done | rfl)); (first | refine wcd_T ?_ | refine wcd_F ?_)
    | refine w_skip ?_ | refine w_exit ?_ | refine w_ret ?_
    | fail
    )
    exact ⟨.inr rfl, by simp only [go_sem, Nat.reduceEqDiff, Nat.reduceAdd, Nat.reduceLeDiff, retOf, resOf, found_none h3]⟩
  · refine ⟨?_, ?_, fun j hj => by omega⟩ <;> simp only [go_sem, Nat.reduceEqDiff, Nat.reduceAdd, Nat.reduceLeDiff]
  · simp only [go_sem, Nat.reduceEqDiff, Nat.reduceAdd, Nat.reduceLeDiff]
  · simp only [go_sem, Nat.reduceEqDiff, Nat.reduceAdd, Nat.reduceLeDiff]
theorem a9e (H : Has law env) (F : Has lf0 env) {s : ByteArray} (hs : Small s) : AV env 9 [.sl [bare s]] = some (.sc (.bool (wordB s))) := by
  have h28 := a28e H F hs
  have hf : found (fun _ => !wordB s) 1 = if wordB s = true then -1 else 0 := by
    cases hw : wordB s <;> simp [found, List.range_succ]
  have h48 : AV env 48 [.sl [bare s], .fn 28 [] []] = some (.sc (.int .i64 (if wordB s = true then -1 else 0))) := by
    rw [← hf]
    refine a48g F (xs := [bare s]) (k := 28) (a := []) (b := []) (by simp) (fun i e h => ?_) (fun i e h σ => ?_) (fun i e h => ?_)
    all_goals
      have hi : i = 0 := by have := (List.getElem?_eq_some_iff.1 h).1; simp at this; exact this
      subst hi
      simp at h
      subst h
    · exact ⟨_, _, _, rfl⟩
    · rfl
    · exact h28
  have h27 : AV env 27 [.sl [bare s], .fn 28 [] []] = some (.sc (.bool (!wordB s))) := by
    refine AV_wp (F (27, d27) (by simp [lf0])) rfl ?_
    (repeat' first
    | refine w_seq ?_ | refine w_rg ?_ | refine wo_nil ?_ | refine g_skU ?_ | refine g_skT ?_ | refine g_skF ?_
    | ((first | apply s_plain | apply s_void | apply s_guard | apply g_goT | apply g_goF); · simp only [go_sem, Nat.reduceEqDiff, Nat.reduceAdd, Nat.reduceLeDiff, h48]; (first | done | rfl))
    | ((first | apply g_T | apply g_F | apply g_gT | apply g_gF); · intro q1_; (first | intro q2_ | have q2_ := q1_); simp only [go_sem, Nat.reduceEqDiff, Nat.reduceAdd, Nat.reduceLeDiff, h48, q1_, q2_]; (first | done | rfl))
    | (apply w_condX; · simp only [go_sem, Nat.reduceEqDiff, Nat.reduceAdd, Nat.reduceLeDiff, h48]; (first | done | rfl)); (first | refine wcd_T ?_ | refine wcd_F ?_)
    | refine w_skip ?_ | refine w_exit ?_ | refine w_ret ?_
    | fail
    )
    refine ⟨.inr rfl, ?_⟩
    simp only [go_sem, Nat.reduceEqDiff, Nat.reduceAdd, Nat.reduceLeDiff, retOf, resOf]
    cases wordB s <;> rfl
  refine AV_wp (F (9, d9) (by simp [lf0])) rfl ?_
  (repeat' first
    | refine w_seq ?_ | refine w_rg ?_ | refine wo_nil ?_ | refine g_skU ?_ | refine g_skT ?_ | refine g_skF ?_
    | ((first | apply s_plain | apply s_void | apply s_guard | apply g_goT | apply g_goF); · simp only [go_sem, Nat.reduceEqDiff, Nat.reduceAdd, Nat.reduceLeDiff, h27]; (first | done | rfl))
    | ((first | apply g_T | apply g_F | apply g_gT | apply g_gF); · intro q1_; (first | intro q2_ | have q2_ := q1_); simp only [go_sem, Nat.reduceEqDiff, Nat.reduceAdd, Nat.reduceLeDiff, h27, q1_, q2_]; (first | done | rfl))
    | (apply w_condX; · simp only [go_sem, Nat.reduceEqDiff, Nat.reduceAdd, Nat.reduceLeDiff, h27]; (first | done | rfl)); (first | refine wcd_T ?_ | refine wcd_F ?_)
    | refine w_skip ?_ | refine w_exit ?_ | refine w_ret ?_
    | fail
    )
  refine ⟨.inr rfl, ?_⟩
  simp only [go_sem, Nat.reduceEqDiff, Nat.reduceAdd, Nat.reduceLeDiff, retOf, resOf]
  cases wordB s <;> rfl
theorem a111 (H : Has la env) (F : Has lf env) {s : ByteArray} (hs : Small s) : AV env 111 [.sc (.string s)] = some (.sc (.bool (wordB s))) := by
  have h9 := a9e (la_law H) (lf_lf0 F) hs
  unfold bare at h9
  refine AV_wp (F (111, d111) (by simp [lf])) rfl ?_
  (repeat' first
    | refine w_seq ?_ | refine w_rg ?_ | refine wo_nil ?_ | refine g_skU ?_ | refine g_skT ?_ | refine g_skF ?_
    | ((first | apply s_plain | apply s_void | apply s_guard | apply g_goT | apply g_goF); · simp only [go_sem, Nat.reduceEqDiff, Nat.reduceAdd, Nat.reduceLeDiff, h9, fillP, fillE, splice, List.replicate_succ, List.replicate_zero, List.set_cons_zero, List.take_zero, List.nil_append, List.length_cons, List.length_nil, List.map_cons, List.map_nil, Array.toList]; (first | done | rfl))
    | ((first | apply g_T | apply g_F | apply g_gT | apply g_gF); · intro q1_; (first | intro q2_ | have q2_ := q1_); simp only [go_sem, Nat.reduceEqDiff, Nat.reduceAdd, Nat.reduceLeDiff, h9, fillP, fillE, splice, List.replicate_succ, List.replicate_zero, List.set_cons_zero, List.take_zero, List.nil_append, List.length_cons, List.length_nil, List.map_cons, List.map_nil, Array.toList, q1_, q2_]; (first | done | rfl))
    | (apply w_condX; · simp only [go_sem, Nat.reduceEqDiff, Nat.reduceAdd, Nat.reduceLeDiff, h9, fillP, fillE, splice, List.replicate_succ, List.replicate_zero, List.set_cons_zero, List.take_zero, List.nil_append, List.length_cons, List.length_nil, List.map_cons, List.map_nil, Array.toList]; (first | done | rfl)); (first | refine wcd_T ?_ | refine wcd_F ?_)
    | refine w_skip ?_ | refine w_exit ?_ | refine w_ret ?_
    | fail
    )
  exact ⟨.inr rfl, by simp only [go_sem, Nat.reduceEqDiff, Nat.reduceAdd, Nat.reduceLeDiff, retOf, resOf]⟩
end

def d105 : Def := (.code 1 [.tmp 2] (.seq (.rg false [⟨.some 1, .none, .box (.t 0)⟩, ⟨.some 2, .none, .mv (.c (.bool false))⟩]) (.seq (.rg false [⟨.some 5, .none, .fa 0 (.t 1)⟩, ⟨.some 6, .none, .ld .none (.t 5)⟩, ⟨.some 7, .none, .call 111 .pure [.t 6]⟩, ⟨.some 8, .none, .mv (.t 7)⟩, ⟨.some 9, .some (8, true), .fa 1 (.t 1)⟩, ⟨.some 10, .some (8, true), .ld .none (.t 9)⟩, ⟨.some 11, .some (8, true), .call 111 .pure [.t 10]⟩, ⟨.some 12, .none, .pick (.t 8) (.t 11) (.c (.bool false))⟩, ⟨.some 13, .none, .mv (.t 12)⟩, ⟨.some 14, .some (13, true), .fa 2 (.t 1)⟩, ⟨.some 15, .some (13, true), .ld .none (.t 14)⟩, ⟨.some 16, .some (13, true), .bin .geq (.t 15) (.c (.int .i64 1))⟩, ⟨.some 17, .none, .pick (.t 13) (.t 16) (.c (.bool false))⟩, ⟨.some 18, .none, .mv (.t 17)⟩, ⟨.some 19, .some (18, true), .fa 2 (.t 1)⟩, ⟨.some 20, .some (18, true), .ld .none (.t 19)⟩, ⟨.some 21, .some (18, true), .bin .leq (.t 20) (.c (.int .i64 5))⟩, ⟨.some 22, .none, .pick (.t 18) (.t 21) (.c (.bool false))⟩, ⟨.some 3, .none, .mv (.t 22)⟩]) (.seq (.rg false [⟨.some 23, .none, .fa 4 (.t 1)⟩, ⟨.some 24, .none, .ld .none (.t 23)⟩, ⟨.some 25, .none, .call 112 .pure [.t 24]⟩, ⟨.some 26, .none, .mv (.t 25)⟩, ⟨.some 27, .some (26, true), .fa 5 (.t 1)⟩, ⟨.some 28, .some (26, true), .ld .none (.t 27)⟩, ⟨.some 29, .some (26, true), .call 112 .pure [.t 28]⟩, ⟨.some 30, .none, .pick (.t 26) (.t 29) (.c (.bool false))⟩, ⟨.some 31, .none, .mv (.t 30)⟩, ⟨.some 32, .some (31, true), .fa 6 (.t 1)⟩, ⟨.some 33, .some (31, true), .ld .none (.t 32)⟩, ⟨.some 34, .some (31, true), .bin .geq (.t 33) (.c (.int .i64 1))⟩, ⟨.some 35, .none, .pick (.t 31) (.t 34) (.c (.bool false))⟩, ⟨.some 36, .none, .mv (.t 35)⟩, ⟨.some 37, .some (36, true), .fa 6 (.t 1)⟩, ⟨.some 38, .some (36, true), .ld .none (.t 37)⟩, ⟨.some 39, .some (36, true), .bin .leq (.t 38) (.c (.int .i64 10))⟩, ⟨.some 40, .none, .pick (.t 36) (.t 39) (.c (.bool false))⟩, ⟨.some 4, .none, .mv (.t 40)⟩]) (.seq (.rg false [⟨.some 41, .none, .mv (.t 3)⟩, ⟨.some 42, .none, .mv (.t 41)⟩, ⟨.some 43, .some (42, true), .mv (.t 4)⟩, ⟨.some 44, .none, .pick (.t 42) (.t 43) (.c (.bool false))⟩, ⟨.some 45, .none, .mv (.t 44)⟩, ⟨.some 46, .some (45, true), .fa 3 (.t 1)⟩, ⟨.some 47, .some (45, true), .ld .none (.t 46)⟩, ⟨.some 48, .some (45, true), .bin .geq (.t 47) (.c (.int .i64 (-1099511627776)))⟩, ⟨.some 49, .none, .pick (.t 45) (.t 48) (.c (.bool false))⟩, ⟨.some 50, .none, .mv (.t 49)⟩, ⟨.some 51, .some (50, true), .fa 3 (.t 1)⟩, ⟨.some 52, .some (50, true), .ld .none (.t 51)⟩, ⟨.some 53, .some (50, true), .bin .leq (.t 52) (.c (.int .i64 1099511627776))⟩, ⟨.some 54, .none, .pick (.t 50) (.t 53) (.c (.bool false))⟩, ⟨.some 55, .none, .mv (.t 54)⟩, ⟨.some 56, .some (55, true), .fa 7 (.t 1)⟩, ⟨.some 57, .some (55, true), .ld .none (.t 56)⟩, ⟨.some 58, .some (55, true), .lenL (.t 57)⟩, ⟨.some 59, .some (55, true), .bin .leq (.t 58) (.c (.int .i64 4))⟩, ⟨.some 60, .none, .pick (.t 55) (.t 59) (.c (.bool false))⟩, ⟨.some 61, .none, .mv (.t 60)⟩, ⟨.some 62, .some (61, true), .fa 7 (.t 1)⟩, ⟨.some 63, .some (61, true), .ld .none (.t 62)⟩, ⟨.some 64, .some (61, true), .call 113 .pure [.t 63]⟩, ⟨.some 65, .none, .pick (.t 61) (.t 64) (.c (.bool false))⟩, ⟨.some 66, .none, .mv (.t 65)⟩, ⟨.some 67, .some (66, true), .fa 7 (.t 1)⟩, ⟨.some 68, .some (66, true), .ld .none (.t 67)⟩, ⟨.some 69, .some (66, true), .call 114 .pure [.t 68, .c (.string ⟨#[97, 108, 101, 114, 116]⟩)]⟩, ⟨.some 70, .some (66, true), .bin .eql (.t 69) (.c (.string ⟨#[]⟩))⟩, ⟨.some 71, .none, .pick (.t 66) (.t 70) (.c (.bool false))⟩, ⟨.some 2, .none, .mv (.t 71)⟩]) .ret)))))
def d115 : Def := (.code 0 [.cell 0 (.some 12)] (.seq (.rg false [⟨.some 0, .none, .box (.c (.agg #[.string ⟨#[]⟩, .nilFunc, .string ⟨#[]⟩, .nilFunc, .string ⟨#[]⟩, .nilFunc, .string ⟨#[]⟩, .nilFunc, .string ⟨#[]⟩, .nilFunc, .string ⟨#[]⟩, .nilFunc]))⟩]) (.seq (.rg false [⟨.some 1, .none, .build (.agg #[.string ⟨#[]⟩, .nilFunc]) [(0, (1, .c (.string ⟨#[62]⟩))), (1, (1, .f 123))]⟩, ⟨.some 2, .none, .build (.agg #[.string ⟨#[]⟩, .nilFunc]) [(0, (1, .c (.string ⟨#[62, 61]⟩))), (1, (1, .f 124))]⟩, ⟨.some 3, .none, .build (.agg #[.string ⟨#[]⟩, .nilFunc]) [(0, (1, .c (.string ⟨#[60]⟩))), (1, (1, .f 125))]⟩, ⟨.some 4, .none, .build (.agg #[.string ⟨#[]⟩, .nilFunc]) [(0, (1, .c (.string ⟨#[60, 61]⟩))), (1, (1, .f 126))]⟩, ⟨.some 5, .none, .build (.agg #[.string ⟨#[]⟩, .nilFunc]) [(0, (1, .c (.string ⟨#[61, 61]⟩))), (1, (1, .f 127))]⟩, ⟨.some 6, .none, .build (.agg #[.string ⟨#[]⟩, .nilFunc, .string ⟨#[]⟩, .nilFunc, .string ⟨#[]⟩, .nilFunc, .string ⟨#[]⟩, .nilFunc, .string ⟨#[]⟩, .nilFunc, .string ⟨#[]⟩, .nilFunc]) [(2, (2, .t 1)), (4, (2, .t 2)), (6, (2, .t 3)), (8, (2, .t 4)), (10, (2, .t 5))]⟩, ⟨.none, .none, .st 12 (.t 0) (.t 6)⟩]) .ret)))
def d123 : Def := (.code 2 [.tmp 4] (.seq (.rg false [⟨.some 4, .none, .mv (.c (.bool false))⟩]) (.seq (.rg false [⟨.some 5, .none, .mv (.t 0)⟩, ⟨.some 6, .none, .mv (.t 1)⟩, ⟨.some 7, .none, .bin .gtr (.t 5) (.t 6)⟩, ⟨.some 4, .none, .mv (.t 7)⟩]) .ret)))
def d124 : Def := (.code 2 [.tmp 4] (.seq (.rg false [⟨.some 4, .none, .mv (.c (.bool false))⟩]) (.seq (.rg false [⟨.some 5, .none, .mv (.t 0)⟩, ⟨.some 6, .none, .mv (.t 1)⟩, ⟨.some 7, .none, .bin .geq (.t 5) (.t 6)⟩, ⟨.some 4, .none, .mv (.t 7)⟩]) .ret)))
def d125 : Def := (.code 2 [.tmp 4] (.seq (.rg false [⟨.some 4, .none, .mv (.c (.bool false))⟩]) (.seq (.rg false [⟨.some 5, .none, .mv (.t 0)⟩, ⟨.some 6, .none, .mv (.t 1)⟩, ⟨.some 7, .none, .bin .lss (.t 5) (.t 6)⟩, ⟨.some 4, .none, .mv (.t 7)⟩]) .ret)))
def d126 : Def := (.code 2 [.tmp 4] (.seq (.rg false [⟨.some 4, .none, .mv (.c (.bool false))⟩]) (.seq (.rg false [⟨.some 5, .none, .mv (.t 0)⟩, ⟨.some 6, .none, .mv (.t 1)⟩, ⟨.some 7, .none, .bin .leq (.t 5) (.t 6)⟩, ⟨.some 4, .none, .mv (.t 7)⟩]) .ret)))
def d127 : Def := (.code 2 [.tmp 4] (.seq (.rg false [⟨.some 4, .none, .mv (.c (.bool false))⟩]) (.seq (.rg false [⟨.some 5, .none, .mv (.t 0)⟩, ⟨.some 6, .none, .mv (.t 1)⟩, ⟨.some 7, .none, .bin .eql (.t 5) (.t 6)⟩, ⟨.some 4, .none, .mv (.t 7)⟩]) .ret)))
def d107 : Def := (.code 2 [.tmp 4] (.seq (.rg false [⟨.some 2, .none, .box (.t 0)⟩, ⟨.some 4, .none, .mv (.c (.bool false))⟩]) (.seq (.rg true [⟨.some 5, .none, .ld (.some 8) (.t 2)⟩, ⟨.some 6, .none, .call 105 .strict [.t 5]⟩, ⟨.some 7, .none, .mv (.t 6)⟩, ⟨.some 8, .some (7, true), .call 115 .strict []⟩, ⟨.some 9, .some (7, true), .fa 2 (.t 2)⟩, ⟨.some 10, .some (7, true), .ld .none (.t 9)⟩, ⟨.some 11, .some (7, true), .ixa 2 6 (.some 2) (.t 8) (.t 10)⟩, ⟨.some 12, .some (7, true), .fld 1 .none (.t 11)⟩, ⟨.some 13, .some (7, true), .mv (.t 1)⟩, ⟨.some 14, .some (7, true), .fa 3 (.t 2)⟩, ⟨.some 15, .some (7, true), .ld .none (.t 14)⟩, ⟨.some 16, .some (7, true), .callv (.t 12) .strict [.t 13, .t 15]⟩, ⟨.some 17, .none, .pick (.t 7) (.t 16) (.c (.bool false))⟩, ⟨.some 4, .none, .mv (.t 17)⟩]) .ret)))
def lg : List (Nat × Def) := [(105, d105), (115, d115), (123, d123), (124, d124), (125, d125), (126, d126), (127, d127), (107, d107)]
structure Rule where
  name : ByteArray
  metric : ByteArray
  how : Int
  limit : Int
  for_ : Int
  keep : Int
  tries : Int
  labels : List Lab
def int (n : Int) : PV := .sc (.int .i64 n)
def rule (r : Rule) : PV := .agg [.sc (.string r.name), .sc (.string r.metric), .sc (.int .i64 r.how), .sc (.int .i64 r.limit), .sc (.int .i64 r.for_), .sc (.int .i64 r.keep), .sc (.int .i64 r.tries), .sl (labs r.labels)]
structure Rule.Fits (r : Rule) : Prop where
  n : Small r.name
  m : Small r.metric
  l : r.labels.length ≤ 9223372036854775807
  s : Smalls r.labels
section
variable {env : Nat → Option Def} {fr : Fr} {σ : St} {K : Fr → St → Prop}
def alertT : ByteArray := ⟨#[97, 108, 101, 114, 116]⟩
def timeB (n : Int) : Bool := decide (n ≥ 0) && decide (n ≤ 1099511627776)
def restR (r : Rule) : Bool := timeB r.for_ && timeB r.keep && decide (r.tries ≥ 1) && decide (r.tries ≤ 10)
def rightR (r : Rule) : Bool := (wordB r.name && wordB r.metric && decide (r.how ≥ 1) && decide (r.how ≤ 5)) && restR r && decide (r.limit ≥ -1099511627776) && decide (r.limit ≤ 1099511627776) && decide ((r.labels.length : Int) ≤ 4) && rightL r.labels && (getB r.labels alertT).toList == (⟨#[]⟩ : ByteArray).toList
theorem a105 (H : Has la env) (G : Has lc env) (F : Has lf env) (I : Has lg env) {r : Rule} (hr : r.Fits) : AV env 105 [rule r] = some (.sc (.bool (rightR r))) := by
  have h1 := a111 H F hr.n
  have h2 := a111 H F hr.m
  have h3 := a112 H r.for_
  have h4 := a112 H r.keep
  have h5 := a113 (la_la0 H) G hr.l hr.s
  have h6 := a114 G (l := r.labels) (n := alertT) hr.l
  have hll := labs_len r.labels
  refine AV_wp (I (105, d105) (by simp [lg])) rfl ?_
  unfold rule
  unfold alertT at h6
  (repeat' first
    | refine w_seq ?_ | refine w_rg ?_ | refine wo_nil ?_ | refine g_skU ?_ | refine g_skT ?_ | refine g_skF ?_
    | ((first | apply s_plain | apply s_void | apply s_guard | apply g_goT | apply g_goF); · simp only [go_sem, Nat.reduceEqDiff, Nat.reduceAdd, Nat.reduceLeDiff, h1, h2, h3, h4, h5, h6, hll]; (first | done | rfl))
    | ((first | apply g_T | apply g_F | apply g_gT | apply g_gF); · intro q1_; (first | intro q2_ | have q2_ := q1_); simp only [go_sem, Nat.reduceEqDiff, Nat.reduceAdd, Nat.reduceLeDiff, h1, h2, h3, h4, h5, h6, hll, q1_, q2_]; (first | done | rfl))
    | (apply w_condX; · simp only [go_sem, Nat.reduceEqDiff, Nat.reduceAdd, Nat.reduceLeDiff, h1, h2, h3, h4, h5, h6, hll]; (first | done | rfl)); (first | refine wcd_T ?_ | refine wcd_F ?_)
    | refine w_skip ?_ | refine w_exit ?_ | refine w_ret ?_
    | fail
    )
  refine ⟨.inr rfl, ?_⟩
  simp only [go_sem, Nat.reduceEqDiff, Nat.reduceAdd, Nat.reduceLeDiff, retOf, resOf]
  rfl
theorem a123 (I : Has lg env) (v m : Int) : AV env 123 [.sc (.int .i64 v), .sc (.int .i64 m)] = some (.sc (.bool (decide (v > m)))) := by
  refine AV_wp (I (123, d123) (by simp [lg])) rfl ?_
  (repeat' first
    | refine w_seq ?_ | refine w_rg ?_ | refine wo_nil ?_ | refine g_skU ?_ | refine g_skT ?_ | refine g_skF ?_
    | ((first | apply s_plain | apply s_void | apply s_guard | apply g_goT | apply g_goF); · simp only [go_sem, Nat.reduceEqDiff, Nat.reduceAdd, Nat.reduceLeDiff]; (first | done | rfl))
    | ((first | apply g_T | apply g_F | apply g_gT | apply g_gF); · intro q1_; (first | intro q2_ | have q2_ := q1_); simp only [go_sem, Nat.reduceEqDiff, Nat.reduceAdd, Nat.reduceLeDiff, q1_, q2_]; (first | done | rfl))
    | (apply w_condX; · simp only [go_sem, Nat.reduceEqDiff, Nat.reduceAdd, Nat.reduceLeDiff]; (first | done | rfl)); (first | refine wcd_T ?_ | refine wcd_F ?_)
    | refine w_skip ?_ | refine w_exit ?_ | refine w_ret ?_
    | fail
    )
  exact ⟨.inr rfl, by simp only [go_sem, Nat.reduceEqDiff, Nat.reduceAdd, Nat.reduceLeDiff, retOf, resOf]⟩
theorem a124 (I : Has lg env) (v m : Int) : AV env 124 [.sc (.int .i64 v), .sc (.int .i64 m)] = some (.sc (.bool (decide (v ≥ m)))) := by
  refine AV_wp (I (124, d124) (by simp [lg])) rfl ?_
  (repeat' first
    | refine w_seq ?_ | refine w_rg ?_ | refine wo_nil ?_ | refine g_skU ?_ | refine g_skT ?_ | refine g_skF ?_
    | ((first | apply s_plain | apply s_void | apply s_guard | apply g_goT | apply g_goF); · simp only [go_sem, Nat.reduceEqDiff, Nat.reduceAdd, Nat.reduceLeDiff]; (first | done | rfl))
    | ((first | apply g_T | apply g_F | apply g_gT | apply g_gF); · intro q1_; (first | intro q2_ | have q2_ := q1_); simp only [go_sem, Nat.reduceEqDiff, Nat.reduceAdd, Nat.reduceLeDiff, q1_, q2_]; (first | done | rfl))
    | (apply w_condX; · simp only [go_sem, Nat.reduceEqDiff, Nat.reduceAdd, Nat.reduceLeDiff]; (first | done | rfl)); (first | refine wcd_T ?_ | refine wcd_F ?_)
    | refine w_skip ?_ | refine w_exit ?_ | refine w_ret ?_
    | fail
    )
  exact ⟨.inr rfl, by simp only [go_sem, Nat.reduceEqDiff, Nat.reduceAdd, Nat.reduceLeDiff, retOf, resOf]⟩
theorem a125 (I : Has lg env) (v m : Int) : AV env 125 [.sc (.int .i64 v), .sc (.int .i64 m)] = some (.sc (.bool (decide (v < m)))) := by
  refine AV_wp (I (125, d125) (by simp [lg])) rfl ?_
  (repeat' first
    | refine w_seq ?_ | refine w_rg ?_ | refine wo_nil ?_ | refine g_skU ?_ | refine g_skT ?_ | refine g_skF ?_
    | ((first | apply s_plain | apply s_void | apply s_guard | apply g_goT | apply g_goF); · simp only [go_sem, Nat.reduceEqDiff, Nat.reduceAdd, Nat.reduceLeDiff]; (first | done | rfl))
    | ((first | apply g_T | apply g_F | apply g_gT | apply g_gF); · intro q1_; (first | intro q2_ | have q2_ := q1_); simp only [go_sem, Nat.reduceEqDiff, Nat.reduceAdd, Nat.reduceLeDiff, q1_, q2_]; (first | done | rfl))
    | (apply w_condX; · simp only [go_sem, Nat.reduceEqDiff, Nat.reduceAdd, Nat.reduceLeDiff]; (first | done | rfl)); (first | refine wcd_T ?_ | refine wcd_F ?_)
    | refine w_skip ?_ | refine w_exit ?_ | refine w_ret ?_
    | fail
    )
  exact ⟨.inr rfl, by simp only [go_sem, Nat.reduceEqDiff, Nat.reduceAdd, Nat.reduceLeDiff, retOf, resOf]⟩
theorem a126 (I : Has lg env) (v m : Int) : AV env 126 [.sc (.int .i64 v), .sc (.int .i64 m)] = some (.sc (.bool (decide (v ≤ m)))) := by
  refine AV_wp (I (126, d126) (by simp [lg])) rfl ?_
  (repeat' first
    | refine w_seq ?_ | refine w_rg ?_ | refine wo_nil ?_ | refine g_skU ?_ | refine g_skT ?_ | refine g_skF ?_
    | ((first | apply s_plain | apply s_void | apply s_guard | apply g_goT | apply g_goF); · simp only [go_sem, Nat.reduceEqDiff, Nat.reduceAdd, Nat.reduceLeDiff]; (first | done | rfl))
    | ((first | apply g_T | apply g_F | apply g_gT | apply g_gF); · intro q1_; (first | intro q2_ | have q2_ := q1_); simp only [go_sem, Nat.reduceEqDiff, Nat.reduceAdd, Nat.reduceLeDiff, q1_, q2_]; (first | done | rfl))
    | (apply w_condX; · simp only [go_sem, Nat.reduceEqDiff, Nat.reduceAdd, Nat.reduceLeDiff]; (first | done | rfl)); (first | refine wcd_T ?_ | refine wcd_F ?_)
    | refine w_skip ?_ | refine w_exit ?_ | refine w_ret ?_
    | fail
    )
  exact ⟨.inr rfl, by simp only [go_sem, Nat.reduceEqDiff, Nat.reduceAdd, Nat.reduceLeDiff, retOf, resOf]⟩
theorem a127 (I : Has lg env) (v m : Int) : AV env 127 [.sc (.int .i64 v), .sc (.int .i64 m)] = some (.sc (.bool (v == m))) := by
  refine AV_wp (I (127, d127) (by simp [lg])) rfl ?_
  (repeat' first
    | refine w_seq ?_ | refine w_rg ?_ | refine wo_nil ?_ | refine g_skU ?_ | refine g_skT ?_ | refine g_skF ?_
    | ((first | apply s_plain | apply s_void | apply s_guard | apply g_goT | apply g_goF); · simp only [go_sem, Nat.reduceEqDiff, Nat.reduceAdd, Nat.reduceLeDiff]; (first | done | rfl))
    | ((first | apply g_T | apply g_F | apply g_gT | apply g_gF); · intro q1_; (first | intro q2_ | have q2_ := q1_); simp only [go_sem, Nat.reduceEqDiff, Nat.reduceAdd, Nat.reduceLeDiff, q1_, q2_]; (first | done | rfl))
    | (apply w_condX; · simp only [go_sem, Nat.reduceEqDiff, Nat.reduceAdd, Nat.reduceLeDiff]; (first | done | rfl)); (first | refine wcd_T ?_ | refine wcd_F ?_)
    | refine w_skip ?_ | refine w_exit ?_ | refine w_ret ?_
    | fail
    )
  exact ⟨.inr rfl, by simp only [go_sem, Nat.reduceEqDiff, Nat.reduceAdd, Nat.reduceLeDiff, retOf, resOf]⟩
end

section
variable {env : Nat → Option Def} {fr : Fr} {σ : St} {K : Fr → St → Prop}
def waysL : List PV := [.sc (.string ⟨#[]⟩), .sc .nilFunc, .sc (.string ⟨#[62]⟩), .fn 123 [] [], .sc (.string ⟨#[62, 61]⟩), .fn 124 [] [], .sc (.string ⟨#[60]⟩), .fn 125 [] [], .sc (.string ⟨#[60, 61]⟩), .fn 126 [] [], .sc (.string ⟨#[61, 61]⟩), .fn 127 [] []]
theorem a115 (I : Has lg env) : AV env 115 [] = some (.agg waysL) := by
  refine AV_wp (I (115, d115) (by simp [lg])) rfl ?_
  (repeat' first
    | refine w_seq ?_ | refine w_rg ?_ | refine wo_nil ?_ | refine g_skU ?_ | refine g_skT ?_ | refine g_skF ?_
    | ((first | apply s_plain | apply s_void | apply s_guard | apply g_goT | apply g_goF); · simp only [go_sem, Nat.reduceEqDiff, Nat.reduceAdd, Nat.reduceLeDiff, fillP, splice, List.take_succ_cons, List.drop_succ_cons, List.modify_zero_cons, List.modify_cons]; (first | done | rfl))
    | ((first | apply g_T | apply g_F | apply g_gT | apply g_gF); · intro q1_; (first | intro q2_ | have q2_ := q1_); simp only [go_sem, Nat.reduceEqDiff, Nat.reduceAdd, Nat.reduceLeDiff, fillP, splice, List.take_succ_cons, List.drop_succ_cons, List.modify_zero_cons, List.modify_cons, q1_, q2_]; (first | done | rfl))
    | (apply w_condX; · simp only [go_sem, Nat.reduceEqDiff, Nat.reduceAdd, Nat.reduceLeDiff, fillP, splice, List.take_succ_cons, List.drop_succ_cons, List.modify_zero_cons, List.modify_cons]; (first | done | rfl)); (first | refine wcd_T ?_ | refine wcd_F ?_)
    | refine w_skip ?_ | refine w_exit ?_ | refine w_ret ?_
    | fail
    )
  refine ⟨.inr rfl, ?_⟩
  simp only [go_sem, Nat.reduceEqDiff, Nat.reduceAdd, Nat.reduceLeDiff, retOf, resOf]
  rfl
def firesB (how v m : Int) : Bool := if how = 1 then decide (v > m) else if how = 2 then decide (v ≥ m) else if how = 3 then decide (v < m) else if how = 4 then decide (v ≤ m) else v == m
theorem a107 (H : Has la env) (G : Has lc env) (F : Has lf env) (I : Has lg env) {r : Rule} (hr : r.Fits) (v : Int) : AV env 107 [rule r, .sc (.int .i64 v)] = some (.sc (.bool (rightR r && firesB r.how v r.limit))) := by
  have h105 := a105 H G F I hr
  have h115 := a115 I
  refine AV_wp (I (107, d107) (by simp [lg])) rfl ?_
  unfold rule at h105 ⊢
  unfold waysL at h115
  cases hb : rightR r with
  | false =>
    rw [hb] at h105
    (repeat' first
    | refine w_seq ?_ | refine w_rg ?_ | refine wo_nil ?_ | refine g_skU ?_ | refine g_skT ?_ | refine g_skF ?_
    | ((first | apply s_plain | apply s_void | apply s_guard | apply g_goT | apply g_goF); · simp only [go_sem, Nat.reduceEqDiff, Nat.reduceAdd, Nat.reduceLeDiff, h105]; (first | done | rfl))
    | ((first | apply g_T | apply g_F | apply g_gT | apply g_gF); · intro q1_; (first | intro q2_ | have q2_ := q1_); simp only [go_sem, Nat.reduceEqDiff, Nat.reduceAdd, Nat.reduceLeDiff, h105, q1_, q2_]; (first | done | rfl))
    | (apply w_condX; · simp only [go_sem, Nat.reduceEqDiff, Nat.reduceAdd, Nat.reduceLeDiff, h105]; (first | done | rfl)); (first | refine wcd_T ?_ | refine wcd_F ?_)
    | refine w_skip ?_ | refine w_exit ?_ | refine w_ret ?_
    | fail
    )
    exact ⟨.inr rfl, by simp only [go_sem, Nat.reduceEqDiff, Nat.reduceAdd, Nat.reduceLeDiff, retOf, resOf]; rfl⟩
  | true =>
    rw [hb] at h105
    have hh : r.how = 1 ∨ r.how = 2 ∨ r.how = 3 ∨ r.how = 4 ∨ r.how = 5 := by
      unfold rightR at hb
      simp only [Bool.and_eq_true, decide_eq_true_eq] at hb
      omega
    have g1 := a123 I v r.limit
    have g2 := a124 I v r.limit
    have g3 := a125 I v r.limit
    have g4 := a126 I v r.limit
    have g5 := a127 I v r.limit
    rcases hh with hh | hh | hh | hh | hh <;> rw [hh] at h105 ⊢
    all_goals
      (repeat' first
    | refine w_seq ?_ | refine w_rg ?_ | refine wo_nil ?_ | refine g_skU ?_ | refine g_skT ?_ | refine g_skF ?_
    | ((first | apply s_plain | apply s_void | apply s_guard | apply g_goT | apply g_goF); · simp only [go_sem, Nat.reduceEqDiff, Nat.reduceAdd, Nat.reduceLeDiff, h105, h115, g1, g2, g3, g4, g5]; (first | done | rfl))
    | ((first | apply g_T | apply g_F | apply g_gT | apply g_gF); · intro q1_; (first | intro q2_ | have q2_ := q1_); simp only [go_sem, Nat.reduceEqDiff, Nat.reduceAdd, Nat.reduceLeDiff, h105, h115, g1, g2, g3, g4, g5, q1_, q2_]; (first | done | rfl))
    | (apply w_condX; · simp only [go_sem, Nat.reduceEqDiff, Nat.reduceAdd, Nat.reduceLeDiff, h105, h115, g1, g2, g3, g4, g5]; (first | done | rfl)); (first | refine wcd_T ?_ | refine wcd_F ?_)
    | refine w_skip ?_ | refine w_exit ?_ | refine w_ret ?_
    | fail
    )
      exact ⟨.inr rfl, by simp only [go_sem, Nat.reduceEqDiff, Nat.reduceAdd, Nat.reduceLeDiff, retOf, resOf]; rfl⟩
end

section
variable {env : Nat → Option Def} {fr : Fr} {σ : St} {K : Fr → St → Prop} {Q : X → Fr → St → Prop}
theorem found_no {p : Nat → Bool} {n : Nat} (h : ¬ found p n ≥ 0) : ∀ j, j < n → p j = false := by
  intro j hj
  unfold found at h
  cases hf : (List.range n).find? p with
  | some i => rw [hf] at h; simp at h
  | none =>
    have := List.find?_eq_none.1 hf j (by simpa using hj)
    simpa using this
theorem found_is {p : Nat → Bool} {n i : Nat} (hi : i < n) (h : p i = true) : ∃ j : Nat, found p n = j ∧ j < n ∧ p j = true := by
  unfold found
  cases hf : (List.range n).find? p with
  | none =>
    have := List.find?_eq_none.1 hf i (by simpa using hi)
    exact absurd h this
  | some j => exact ⟨j, rfl, by simpa using List.mem_of_find?_eq_some hf, List.find?_some hf⟩
theorem rightL_may {l : List Lab} (h : rightL l = true) {i : Nat} (hi : i < l.length) : mayB (nth l i) = true := by
  unfold rightL at h
  simp only [Bool.and_eq_true, Bool.not_eq_true', decide_eq_false_iff_not] at h
  have := found_no h.1 i hi
  unfold badL at this
  simp only [Bool.or_eq_false_iff, Bool.not_eq_false'] at this
  exact this.1
end

section
variable {env : Nat → Option Def} {fr : Fr} {σ σ' : St} {K : Fr → St → Prop} {Q : X → Fr → St → Prop}
def Gat (σ : St) (os : List Nat) (es : Nat) (w : Bool) (p : PV) (xs : List PV) : Prop := (p = .em ∧ xs = []) ∨ ∃ o g wr, o ∈ os ∧ p = .ob o g es 0 xs.length ∧ σ.m o g = some ⟨es, xs, true, wr⟩ ∧ g < σ.c o ∧ xs ≠ [] ∧ (w = true → wr = true)
theorem Gat.em {os : List Nat} {es : Nat} {w : Bool} : Gat σ os es w .em [] := .inl ⟨rfl, rfl⟩
theorem Gat.new {os : List Nat} {es : Nat} {w : Bool} {p : PV} {xs : List PV} (h : Gat σ os es w p xs) {d : Nat} (y : Obj) : Gat (σ.new d y) os es w p xs := by
  rcases h with h | ⟨o, g, wr, h0, h1, h2, h3, h4⟩
  · exact .inl h
  · refine .inr ⟨o, g, wr, h0, h1, ?_, ?_, h4⟩
    · simp only [new_m]; rw [if_neg (fun h => by obtain ⟨rfl, rfl⟩ := h; omega)]; exact h2
    · simp only [new_c]; split
      · rename_i h; subst h; omega
      · exact h3
theorem Gat.put {os : List Nat} {es : Nat} {w : Bool} {p : PV} {xs : List PV} (h : Gat σ os es w p xs) {d k : Nat} (hd : d ∉ os) (y : Option Obj) : Gat (σ.put d k y) os es w p xs := by
  rcases h with h | ⟨o, g, wr, h0, h1, h2, h3, h4⟩
  · exact .inl h
  · refine .inr ⟨o, g, wr, h0, h1, ?_, ?_, h4⟩
    · simp only [put_m]; rw [if_neg (fun (h : o = d ∧ g = k) => hd (h.1 ▸ h0))]; exact h2
    · simp only [put_c]; exact h3
theorem Gat.fz {os : List Nat} {es : Nat} {w : Bool} {p : PV} {xs : List PV} (h : Gat σ os es w p xs) (hx : xs.mapM (fz σ 11) = some xs) : fz σ 12 p = some (.sl xs) := by
  rcases h with ⟨rfl, rfl⟩ | ⟨o, g, wr, _, rfl, h2, _⟩
  · rfl
  · rw [fz_ob, h2]
    simp [hx]
theorem gat_app {E : Ev} {d es by_ : Nat} {os : List Nat} {w kw : Bool} {s' x : PA} {xs : List PV} {e : PV} (hg : Gat σ os es w (pa fr s') xs) (hd : d ∈ os) (hsrc : srcOf σ es (pa fr x) = some [e]) (hok : okc e = true) (hl : (cellsOf e).length = es) (hb : (xs.length + 1) * by_ ≤ 70368744177664) :
    ∃ p σ', evO E d fr σ (.app es by_ kw s' x) = some (p, σ') ∧ Gat σ' os es (w && kw) p (xs ++ [e]) := by
  have hall : ([e].all fun y => okc y && (cellsOf y).length == es) = true := by simp [hok, hl]
  rcases hg with ⟨h1, rfl⟩ | ⟨o, g, wr, h0, h1, h2, h3, h4, h5⟩
  · refine ⟨.ob d (σ.c d) es 0 1, σ.new d ⟨es, [e], true, true⟩, ?_, .inr ⟨d, σ.c d, true, hd, rfl, by simp [new_m], by simp [new_c], by simp, fun _ => rfl⟩⟩
    simp only [evO, hsrc, Option.bind_some, hall, if_true, h1]
    rw [if_pos (by simpa using hb)]
    rfl
  · refine ⟨.ob d (σ.c d) es 0 (xs.length + 1), (σ.put o g (if kw then none else some ⟨es, xs, false, false⟩)).new d ⟨es, xs ++ [e], true, wr && kw⟩, ?_, .inr ⟨d, σ.c d, wr && kw, hd, by simp, by simp [new_m, put_c], by simp [new_c, put_c], by simp, fun h => ?_⟩⟩
    · simp only [evO, hsrc, Option.bind_some, hall, if_true, h1, h2]
      simp
      simpa using hb
    · simp only [Bool.and_eq_true] at h ⊢
      exact ⟨h5 h.1, h.2⟩
theorem s_gat {d t es by_ : Nat} {os : List Nat} {w kw : Bool} {x : PA} {xs : List PV} {e : PV} {ops : List POp} (hg : Gat σ os es w (fr t) xs) (hd : d ∈ os) (hsrc : srcOf σ es (pa fr x) = some [e]) (hok : okc e = true) (hl : (cellsOf e).length = es) (hb : (xs.length + 1) * by_ ≤ 70368744177664)
    (h2 : ∀ p σ', Gat σ' os es (w && kw) p (xs ++ [e]) → Wos env ops K (fr.set d p) σ') : Wos env (⟨some d, none, .app es by_ kw (.t t) x⟩ :: ops) K fr σ := by
  obtain ⟨p, σ', h3, h4⟩ := gat_app (E := EV env) (fr := fr) (s' := .t t) (x := x) (kw := kw) hg hd hsrc hok hl hb
  exact s_plain h3 (h2 p σ' h4)
theorem call_pure {f : Nat} {args as : List PV} {r : PV} (h1 : args.mapM (fz σ dep) = some as) (h2 : AV env f as = some r) : ∃ σ', callE (EV env) f .pure args σ = some (r, σ') := by
  simp only [callE, pcall_eq, h1, Option.bind_some, h2, Bool.false_eq_true, if_false]
  split
  · exact ⟨_, rfl⟩
  · exact ⟨_, rfl⟩
theorem s_call {d f : Nat} {args : List PA} {as : List PV} {r : PV} {ops : List POp} (h1 : (args.map (pa fr)).mapM (fz σ dep) = some as) (h2 : AV env f as = some r) (h : ∀ σ', Wos env ops K (fr.set d r) σ') :
    Wos env (⟨some d, none, .call f .pure args⟩ :: ops) K fr σ := by
  obtain ⟨σ', h3⟩ := call_pure h1 h2
  exact s_plain (v := r) (σ' := σ') h3 (h σ')
theorem Gat.mono {os os' : List Nat} {es : Nat} {w : Bool} {p : PV} {xs : List PV} (h : Gat σ os es w p xs) (ho : ∀ o ∈ os, o ∈ os') : Gat σ os' es false p xs := by
  rcases h with h | ⟨o, g, wr, h0, h1, h2, h3, h4, _⟩
  · exact .inl h
  · exact .inr ⟨o, g, wr, ho o h0, h1, h2, h3, h4, fun h => by cases h⟩
structure Keeps (σ σ' : St) (os : List Nat) : Prop where
  c : ∀ o, σ.c o ≤ σ'.c o
  m : ∀ o g, o ∉ os → g < σ.c o → σ'.m o g = σ.m o g
theorem Gat.keep {os os2 : List Nat} {es : Nat} {w : Bool} {p : PV} {xs : List PV} (h : Gat σ os es w p xs) (hk : Keeps σ σ' os2) (hd : ∀ o ∈ os, o ∉ os2) : Gat σ' os es w p xs := by
  rcases h with h | ⟨o, g, wr, h0, h1, h2, h3, h4⟩
  · exact .inl h
  · exact .inr ⟨o, g, wr, h0, h1, by rw [hk.m o g (hd o h0) h3]; exact h2, Nat.lt_of_lt_of_le h3 (hk.c o), h4⟩
theorem gat_appL {E : Ev} {d es by_ : Nat} {os : List Nat} {w kw : Bool} {s' x : PA} {xs ys : List PV} (hg : Gat σ os es w (pa fr s') xs) (hsrc : srcOf σ es (pa fr x) = some ys) (hall : (ys.all fun y => okc y && (cellsOf y).length == es) = true) (hb : (xs.length + ys.length) * by_ ≤ 70368744177664) :
    ∃ p σ', evO E d fr σ (.app es by_ kw s' x) = some (p, σ') ∧ Gat σ' [d] es (w && kw) p (xs ++ ys) ∧ Keeps σ σ' os := by
  rcases hg with ⟨h1, rfl⟩ | ⟨o, g, wr, h0, h1, h2, h3, h4, h5⟩
  · cases ys with
    | nil =>
      refine ⟨.em, σ, ?_, .em, ⟨fun _ => Nat.le_refl _, fun _ _ _ _ => rfl⟩⟩
      simp only [evO, hsrc, Option.bind_some, hall, if_true, h1]
      simp
    | cons y r =>
      refine ⟨.ob d (σ.c d) es 0 (y :: r).length, σ.new d ⟨es, y :: r, true, true⟩, ?_, .inr ⟨d, σ.c d, true, by simp, by simp, by simp [new_m], by simp [new_c], by simp, fun _ => rfl⟩, ⟨fun o => ?_, fun o g _ hlt => ?_⟩⟩
      · simp only [evO, hsrc, Option.bind_some, hall, if_true, h1]
        rw [if_pos (by simpa using hb)]
        rfl
      · simp only [new_c]; split
        · rename_i h; subst h; omega
        · exact Nat.le_refl _
      · simp only [new_m]; rw [if_neg (fun h => by obtain ⟨rfl, rfl⟩ := h; omega)]
  · refine ⟨.ob d (σ.c d) es 0 (xs.length + ys.length), (σ.put o g (if kw then none else some ⟨es, xs, false, false⟩)).new d ⟨es, xs ++ ys, true, wr && kw⟩, ?_, .inr ⟨d, σ.c d, wr && kw, by simp, by simp, by simp [new_m, put_c], by simp [new_c, put_c], by simp [h4], fun h => ?_⟩, ⟨fun o' => ?_, fun o' g' ho hlt => ?_⟩⟩
    · simp only [evO, hsrc, Option.bind_some, hall, if_true, h1, h2]
      simp
      simpa using hb
    · simp only [Bool.and_eq_true] at h ⊢
      exact ⟨h5 h.1, h.2⟩
    · simp only [new_c, put_c]; split
      · rename_i h; subst h; omega
      · exact Nat.le_refl _
    · simp only [new_m, put_m, put_c]
      have n1 : ¬ (o' = d ∧ g' = σ.c d) := fun h => by obtain ⟨rfl, rfl⟩ := h; omega
      have n2 : ¬ (o' = o ∧ g' = g) := fun h => ho (h.1 ▸ h0)
      simp only [n1, n2, if_false]
theorem s_gatL {d t es by_ : Nat} {os : List Nat} {w kw : Bool} {x : PA} {xs ys : List PV} {ops : List POp} (hg : Gat σ os es w (fr t) xs) (hsrc : srcOf σ es (pa fr x) = some ys) (hall : (ys.all fun y => okc y && (cellsOf y).length == es) = true) (hb : (xs.length + ys.length) * by_ ≤ 70368744177664)
    (h2 : ∀ p σ', Gat σ' [d] es (w && kw) p (xs ++ ys) → Keeps σ σ' os → Wos env ops K (fr.set d p) σ') : Wos env (⟨some d, none, .app es by_ kw (.t t) x⟩ :: ops) K fr σ := by
  obtain ⟨p, σ', h3, h4, h5⟩ := gat_appL (E := EV env) (d := d) (fr := fr) (s' := .t t) (x := x) (kw := kw) hg hsrc hall hb
  exact s_plain h3 (h2 p σ' h4 h5)
theorem gat_len {os : List Nat} {es : Nat} {w : Bool} {p : PV} {xs : List PV} {E : Ev} {d t : Nat} (hg : Gat σ os es w p xs) (ht : fr t = p) : evO E d fr σ (.lenL (.t t)) = some (.sc (.int .i64 xs.length), σ) := by
  rcases hg with ⟨rfl, rfl⟩ | ⟨o, g, wr, h0, rfl, h2, h3, h4, h5⟩
  · simp [evO, pa, ht]
  · simp [evO, pa, ht]
theorem Gat.one {d es : Nat} {w : Bool} {p : PV} {xs : List PV} {os : List Nat} (h : Gat σ [d] es w p xs) (hd : d ∈ os) : Gat σ os es false p xs := h.mono (by intro o ho; simp at ho; subst ho; exact hd)
theorem gat_fzd {os : List Nat} {es d : Nat} {w : Bool} {p : PV} {xs : List PV} (h : Gat σ os es w p xs) (hx : xs.mapM (fz σ d) = some xs) : fz σ (d + 1) p = some (.sl xs) := by
  rcases h with ⟨rfl, rfl⟩ | ⟨o, g, wr, _, rfl, h2, _⟩
  · rfl
  · rw [fz_ob, h2]
    simp [hx]
theorem Gat.lenP {os : List Nat} {es : Nat} {w : Bool} {p : PV} {xs : List PV} (h : Gat σ os es w p xs) : lenP p = some xs.length := by
  rcases h with ⟨rfl, rfl⟩ | ⟨o, g, wr, _, rfl, _⟩ <;> rfl
def cutS (n : Nat) (s : ByteArray) : ByteArray := s.extract 0 (min s.size n)
theorem mn2 (a b : Int) : mnmx false [.sc (.int .i64 a), .sc (.int .i64 b)] = some (.sc (.int .i64 (min a b))) := by
  simp only [mnmx, List.foldlM_cons, List.foldlM_nil, mn1, if_true, Bool.false_eq_true, if_false]
  have : (if b < a then b else a) = min a b := by
    rw [Int.min_def]; split <;> split <;> omega
  rw [this]; rfl
theorem slcL_cut (fr : Fr) (t n es : Nat) (xs : List PV) (hx : xs.all (fun x => (cellsOf x).length == es) = true) (h : fr t = .sc (.int .i64 (min (xs.length : Int) (n : Int)))) : slcLP es fr (.sl xs) none (some (.t t)) = some (.sl (xs.take (min xs.length n))) := by
  have e : min (xs.length : Int) (n : Int) = ((min xs.length n : Nat) : Int) := by omega
  simp only [slcLP, hx, if_true, hiOf, pa, h, e, bound, loOf, Option.bind_some]
  have e2 : (0 : Int) ≤ ((min xs.length n : Nat) : Int) ∧ ((min xs.length n : Nat) : Int) ≤ (xs.length : Int) := by omega
  rw [if_pos e2]
  simp
end

def d108 : Def := (.code 1 [.tmp 2] (.seq (.rg false [⟨.some 2, .none, .mv (.c (.slice .none 0 0))⟩]) (.seq (.rg false [⟨.some 3, .none, .mv (.c (.slice .none 0 0))⟩]) (.seq (.seq (.rg false [⟨.some 6, .none, .mv (.t 0)⟩, ⟨.some 7, .none, .mv (.t 0)⟩, ⟨.some 8, .none, .lenL (.t 7)⟩, ⟨.some 9, .none, .mnmx false [.t 8, .c (.int .i64 10)]⟩, ⟨.some 10, .none, .slcL 2 (.t 6) .none (.some (.t 9))⟩, ⟨.some 11, .none, .lenL (.t 10)⟩, ⟨.some 12, .none, .mv (.c (.int .i64 0))⟩]) (.block 0 (.loop (.seq (.rg false [⟨.some 13, .none, .bin .lss (.t 12) (.t 11)⟩]) (.seq (.cond (.t 13) .skip (.exit 0)) (.seq (.block 1 (.seq (.rg false [⟨.some 14, .none, .ia 2 (.t 10) (.t 12)⟩, ⟨.some 15, .none, .ld (.some 2) (.t 14)⟩, ⟨.some 5, .none, .box (.c (.agg #[.string ⟨#[]⟩, .string ⟨#[]⟩]))⟩, ⟨.none, .none, .st 2 (.t 5) (.t 15)⟩]) (.rg true [⟨.some 16, .none, .mv (.t 3)⟩, ⟨.some 17, .none, .fa 0 (.t 5)⟩, ⟨.some 18, .none, .ld .none (.t 17)⟩, ⟨.some 19, .none, .fa 0 (.t 5)⟩, ⟨.some 20, .none, .ld .none (.t 19)⟩, ⟨.some 21, .none, .lenS (.t 20)⟩, ⟨.some 22, .none, .mnmx false [.t 21, .c (.int .i64 70)]⟩, ⟨.some 23, .none, .slcS (.t 18) .none (.some (.t 22))⟩, ⟨.some 24, .none, .fa 1 (.t 5)⟩, ⟨.some 25, .none, .ld .none (.t 24)⟩, ⟨.some 26, .none, .fa 1 (.t 5)⟩, ⟨.some 27, .none, .ld .none (.t 26)⟩, ⟨.some 28, .none, .lenS (.t 27)⟩, ⟨.some 29, .none, .mnmx false [.t 28, .c (.int .i64 70)]⟩, ⟨.some 30, .none, .slcS (.t 25) .none (.some (.t 29))⟩, ⟨.some 31, .none, .build (.agg #[.string ⟨#[]⟩, .string ⟨#[]⟩]) [(0, (1, .t 23)), (1, (1, .t 30))]⟩, ⟨.some 32, .none, .bsl 2 (.agg #[.string ⟨#[]⟩, .string ⟨#[]⟩]) 1 [(0, .t 31)]⟩, ⟨.some 33, .none, .app 2 32 false (.t 16) (.t 32)⟩, ⟨.some 3, .none, .mv (.t 33)⟩]))) (.rg false [⟨.some 34, .none, .bin .add (.t 12) (.c (.int .i64 1))⟩, ⟨.some 12, .none, .mv (.t 34)⟩]))))))) (.seq (.rg false [⟨.some 35, .none, .mv (.t 3)⟩, ⟨.some 2, .none, .mv (.t 35)⟩]) .ret)))))
section
variable {env : Nat → Option Def} {fr : Fr} {σ : St} {K : Fr → St → Prop}
def cutL (m : Lab) : Lab := (cutS 70 m.1, cutS 70 m.2)
def fewL (l : List Lab) : List Lab := (l.take (min l.length 10)).map cutL
def Got (σ : St) (s es : Nat) (p : PV) (xs : List PV) : Prop := (p = .em ∧ xs = []) ∨ ∃ g wr, p = .ob s g es 0 xs.length ∧ σ.m s g = some ⟨es, xs, true, wr⟩ ∧ g < σ.c s ∧ xs ≠ []
theorem Got.new {s es : Nat} {p : PV} {xs : List PV} (h : Got σ s es p xs) {d : Nat} (hd : s ≠ d) (y : Obj) : Got (σ.new d y) s es p xs := by
  rcases h with h | ⟨g, wr, h1, h2, h3, h4⟩
  · exact .inl h
  · exact .inr ⟨g, wr, h1, by simp only [new_m]; rw [if_neg (fun h => hd h.1)]; exact h2, by simp only [new_c]; rw [if_neg hd]; exact h3, h4⟩
theorem Got.put {s es : Nat} {p : PV} {xs : List PV} (h : Got σ s es p xs) {d k : Nat} (hd : s ≠ d) (y : Option Obj) : Got (σ.put d k y) s es p xs := by
  rcases h with h | ⟨g, wr, h1, h2, h3, h4⟩
  · exact .inl h
  · exact .inr ⟨g, wr, h1, by simp only [put_m]; rw [if_neg (fun h => hd h.1)]; exact h2, by simp only [put_c]; exact h3, h4⟩
theorem app_one {E : Ev} {s es by_ : Nat} {s' x : PA} {xs : List PV} {e : PV} (hg : Got σ s es (pa fr s') xs) (hsrc : srcOf σ es (pa fr x) = some [e]) (hok : okc e = true) (hl : (cellsOf e).length = es) (hb : (xs.length + 1) * by_ ≤ 70368744177664) :
    ∃ p σ', evO E s fr σ (.app es by_ false s' x) = some (p, σ') ∧ Got σ' s es p (xs ++ [e]) := by
  have hall : ([e].all fun y => okc y && (cellsOf y).length == es) = true := by simp [hok, hl]
  rcases hg with ⟨h1, rfl⟩ | ⟨g, wr, h1, h2, h3, h4⟩
  · refine ⟨.ob s (σ.c s) es 0 1, σ.new s ⟨es, [e], true, true⟩, ?_, .inr ⟨σ.c s, true, rfl, by simp [new_m], by simp [new_c], by simp⟩⟩
    simp only [evO, hsrc, Option.bind_some, hall, if_true, h1]
    rw [if_pos (by simpa using hb)]
    rfl
  · refine ⟨.ob s (σ.c s) es 0 (xs.length + 1), (σ.put s g (some ⟨es, xs, false, false⟩)).new s ⟨es, xs ++ [e], true, false⟩, ?_, .inr ⟨σ.c s, false, by simp, by simp [new_m, put_c], by simp [new_c, put_c], by simp⟩⟩
    simp only [evO, hsrc, Option.bind_some, hall, if_true, h1, h2]
    have hb' : (xs.length + [e].length) * by_ ≤ 70368744177664 := hb
    simp
    simpa using hb
theorem s_app {d t es by_ : Nat} {x : PA} {xs : List PV} {e : PV} {ops : List POp} (hg : Got σ d es (fr t) xs) (hsrc : srcOf σ es (pa fr x) = some [e]) (hok : okc e = true) (hl : (cellsOf e).length = es) (hb : (xs.length + 1) * by_ ≤ 70368744177664)
    (h2 : ∀ p σ', Got σ' d es p (xs ++ [e]) → Wos env ops K (fr.set d p) σ') : Wos env (⟨some d, none, .app es by_ false (.t t) x⟩ :: ops) K fr σ := by
  obtain ⟨p, σ', h3, h4⟩ := app_one (E := EV env) (fr := fr) (s' := .t t) (x := x) hg hsrc hok hl hb
  exact s_plain h3 (h2 p σ' h4)
theorem fewL_len (l : List Lab) : (fewL l).length = min l.length 10 := by simp [fewL]
theorem few_g {k0 : Nat} (hk0 : env k0 = some d108) {l : List Lab} (hn : l.length ≤ 9223372036854775807) : AV env k0 [.sl (labs l)] = some (.sl (labs (fewL l))) := by
  refine AV_wp hk0 rfl ?_
  have hll := labs_len l
  have hall : (labs l).all (fun x => (cellsOf x).length == 2) = true := by
    rw [List.all_eq_true]
    intro x hx
    obtain ⟨m, _, rfl⟩ := List.mem_map.1 hx
    rfl
  (repeat' first
    | refine w_seq ?_ | refine w_rg ?_ | refine wo_nil ?_ | refine g_skU ?_ | refine g_skT ?_ | refine g_skF ?_
    | ((first | apply s_plain | apply s_void | apply s_guard | apply g_goT | apply g_goF); · simp only [go_sem, Nat.reduceEqDiff, Nat.reduceAdd, Nat.reduceLeDiff, hll, mn2]; (first | done | rfl))
    | ((first | apply g_T | apply g_F | apply g_gT | apply g_gF); · intro q1_; (first | intro q2_ | have q2_ := q1_); simp only [go_sem, Nat.reduceEqDiff, Nat.reduceAdd, Nat.reduceLeDiff, hll, mn2, q1_, q2_]; (first | done | rfl))
    | fail
    )
  refine s_plain (v := .sl ((labs l).take (min l.length 10))) (σ' := St.nil) (by
    simp only [↓e_slcL]
    have h6 : pa _ (.t 6) = .sl (labs l) := (by simp only [go_sem, Nat.reduceEqDiff, Nat.reduceAdd, Nat.reduceLeDiff] : pa (((((((frOf [PV.sl (labs l)]).set 2 PV.em).set 3 PV.em).set 6 (PV.sl (labs l))).set 7 (PV.sl (labs l))).set 8 (PV.sc (Value.int IntKind.i64 l.length))).set 9 (PV.sc (Value.int IntKind.i64 (min (l.length : Int) 10)))) (.t 6) = .sl (labs l))
    rw [h6, slcL_cut _ 9 10 2 (labs l) hall (by simp only [go_sem, Nat.reduceEqDiff, Nat.reduceAdd, Nat.reduceLeDiff, hll]; rfl), hll]
    rfl) ?_
  have hlt : ((labs l).take (min l.length 10)).length = min l.length 10 := by rw [List.length_take, hll]; omega
  (repeat' first
    | refine w_seq ?_ | refine w_rg ?_ | refine wo_nil ?_ | refine g_skU ?_ | refine g_skT ?_ | refine g_skF ?_
    | ((first | apply s_plain | apply s_void | apply s_guard | apply g_goT | apply g_goF); · simp only [go_sem, Nat.reduceEqDiff, Nat.reduceAdd, Nat.reduceLeDiff, hlt]; (first | done | rfl))
    | ((first | apply g_T | apply g_F | apply g_gT | apply g_gF); · intro q1_; (first | intro q2_ | have q2_ := q1_); simp only [go_sem, Nat.reduceEqDiff, Nat.reduceAdd, Nat.reduceLeDiff, hlt, q1_, q2_]; (first | done | rfl))
    | fail
    )
  refine w_block (w_range (min l.length 10) (by omega) (fun i fr σ => fr 10 = .sl ((labs l).take (min l.length 10)) ∧ Got σ 33 2 (fr 3) ((labs (fewL l)).take i)) (by decide) ?_ ?_ ?_ _ _ ?_ ?_ ?_)
  · rintro i fr σ v ⟨h0, h1⟩
    refine ⟨⟨?_, ?_⟩, ⟨?_, ?_⟩, ⟨?_, ?_⟩⟩ <;> simp only [go_sem, Nat.reduceEqDiff, Nat.reduceAdd, Nat.reduceLeDiff, h0, h1]
  · rintro i fr σ hi ⟨h10, hg⟩ hti htn
    have hil : i < l.length := by omega
    have hx : ((labs l).take (min l.length 10))[i]? = some (.agg [.sc (.string l[i].1), .sc (.string l[i].2)]) := by
      rw [List.getElem?_take, if_pos hi]
      exact labs_at (List.getElem?_eq_getElem hil)
    have e1 : (0 : Int) ≤ (i : Int) ∧ (i : Int) < ((min l.length 10 : Nat) : Int) := by omega
    refine w_block ?_
    have b70 : ∀ (n : Nat) (k : IntKind), bound n (.sc (.int k (min (n : Int) 70))) = some (min n 70) := fun n k => bound_min rfl
    (repeat' first
    | refine w_seq ?_ | refine w_rg ?_ | refine wo_nil ?_ | refine g_skU ?_ | refine g_skT ?_ | refine g_skF ?_
    | ((first | apply s_plain | apply s_void | apply s_guard | apply g_goT | apply g_goF); · simp only [go_sem, Nat.reduceEqDiff, Nat.reduceAdd, Nat.reduceLeDiff, h10, hti, e1, hlt, Int.toNat_natCast, hx, mn2, List.modify_zero_cons, b70, fillP, fillE, splice, List.replicate_succ, List.replicate_zero, List.set_cons_zero]; (first | done | rfl))
    | ((first | apply g_T | apply g_F | apply g_gT | apply g_gF); · intro q1_; (first | intro q2_ | have q2_ := q1_); simp only [go_sem, Nat.reduceEqDiff, Nat.reduceAdd, Nat.reduceLeDiff, h10, hti, e1, hlt, Int.toNat_natCast, hx, mn2, List.modify_zero_cons, b70, fillP, fillE, splice, List.replicate_succ, List.replicate_zero, List.set_cons_zero, q1_, q2_]; (first | done | rfl))
    | fail
    )
    have hL : (labs (fewL l)).take (i + 1) = (labs (fewL l)).take i ++ [.agg [.sc (.string (cutS 70 l[i].1)), .sc (.string (cutS 70 l[i].2))]] := by
      have hlen : i < (labs (fewL l)).length := by rw [labs_len, fewL_len]; exact hi
      rw [List.take_succ_eq_append_getElem hlen]
      congr 1
      simp [labs, fewL, lab, cutL]
    have hlen : ((labs (fewL l)).take i).length ≤ 10 := by rw [List.length_take]; omega
    refine s_app (xs := (labs (fewL l)).take i) (e := .agg [.sc (.string (cutS 70 l[i].1)), .sc (.string (cutS 70 l[i].2))]) (by simp only [go_sem, Nat.reduceEqDiff, Nat.reduceAdd, Nat.reduceLeDiff]; exact ((hg.new (d := 2000005) (by decide) _).put (d := 2000005) (by decide) _).new (d := 32) (by decide) _) (by simp only [go_sem, Nat.reduceEqDiff, Nat.reduceAdd, Nat.reduceLeDiff, srcOf, elemsOf]; rfl) rfl rfl (by omega) ?_
    intro p σ' hg2
    rw [← hL] at hg2
    (repeat' first
    | refine w_seq ?_ | refine w_rg ?_ | refine wo_nil ?_ | refine g_skU ?_ | refine g_skT ?_ | refine g_skF ?_
    | ((first | apply s_plain | apply s_void | apply s_guard | apply g_goT | apply g_goF); · simp only [go_sem, Nat.reduceEqDiff, Nat.reduceAdd, Nat.reduceLeDiff]; (first | done | rfl))
    | ((first | apply g_T | apply g_F | apply g_gT | apply g_gF); · intro q1_; (first | intro q2_ | have q2_ := q1_); simp only [go_sem, Nat.reduceEqDiff, Nat.reduceAdd, Nat.reduceLeDiff, q1_, q2_]; (first | done | rfl))
    | fail
    )
    refine ⟨⟨?_, ?_⟩, ?_, ?_⟩
    · simp only [go_sem, Nat.reduceEqDiff, Nat.reduceAdd, Nat.reduceLeDiff, h10]
    · simp only [go_sem, Nat.reduceEqDiff, Nat.reduceAdd, Nat.reduceLeDiff]; exact hg2
    · simp only [go_sem, Nat.reduceEqDiff, Nat.reduceAdd, Nat.reduceLeDiff, hti]
    · simp only [go_sem, Nat.reduceEqDiff, Nat.reduceAdd, Nat.reduceLeDiff, htn]
  · rintro fr σ ⟨h10, hg⟩
    simp only [if_true]
    have hfull : (labs (fewL l)).take (min l.length 10) = labs (fewL l) := by rw [List.take_of_length_le]; rw [labs_len, fewL_len]; exact Nat.le_refl _
    rw [hfull] at hg
    have hfz : fz σ 12 (fr 3) = some (.sl (labs (fewL l))) := by
      have hm : ∀ (L : List Lab), (labs L).mapM (fz σ 11) = some (labs L) := by
        intro L
        induction L with
        | nil => rfl
        | cons m L ih =>
          show List.mapM (fz σ 11) (lab m :: labs L) = _
          rw [mapM_cons', ih]
          rfl
      rcases hg with ⟨h3, h4⟩ | ⟨g, wr, h3, h4, _, _⟩
      · rw [h3, h4]; rfl
      · rw [h3, fz_ob, h4]
        simp [hm]
    (repeat' first
    | refine w_seq ?_ | refine w_rg ?_ | refine wo_nil ?_ | refine g_skU ?_ | refine g_skT ?_ | refine g_skF ?_
    | ((first | apply s_plain | apply s_void | apply s_guard | apply g_goT | apply g_goF); · simp only [go_sem, Nat.reduceEqDiff, Nat.reduceAdd, Nat.reduceLeDiff]; (first | done | rfl))
    | ((first | apply g_T | apply g_F | apply g_gT | apply g_gF); · intro q1_; (first | intro q2_ | have q2_ := q1_); simp only [go_sem, Nat.reduceEqDiff, Nat.reduceAdd, Nat.reduceLeDiff, q1_, q2_]; (first | done | rfl))
    | (apply w_condX; · simp only [go_sem, Nat.reduceEqDiff, Nat.reduceAdd, Nat.reduceLeDiff]; (first | done | rfl)); (first | refine wcd_T ?_ | refine wcd_F ?_)
    | refine w_skip ?_ | refine w_exit ?_ | refine w_ret ?_
    | fail
    )
    exact ⟨.inr rfl, by simp only [go_sem, Nat.reduceEqDiff, Nat.reduceAdd, Nat.reduceLeDiff, retOf, resOf, hfz]⟩
  · exact ⟨by simp only [go_sem, Nat.reduceEqDiff, Nat.reduceAdd, Nat.reduceLeDiff], by simp only [go_sem, Nat.reduceEqDiff, Nat.reduceAdd, Nat.reduceLeDiff]; exact .inl ⟨rfl, rfl⟩⟩
  · simp only [go_sem, Nat.reduceEqDiff, Nat.reduceAdd, Nat.reduceLeDiff]
  · simp only [go_sem, Nat.reduceEqDiff, Nat.reduceAdd, Nat.reduceLeDiff]
end

section
variable {env : Nat → Option Def} {fr : Fr} {σ : St} {K : Fr → St → Prop}
def cutR (r : Rule) : Rule := { r with name := cutS 70 r.name, metric := cutS 70 r.metric, labels := fewL r.labels }
theorem cutS_small (s : ByteArray) : Small (cutS 70 s) := by
  unfold Small cutS
  rw [ByteArray.size_extract]
  omega
theorem fewL_smalls (l : List Lab) : Smalls (fewL l) := by
  intro m hm
  simp only [fewL, List.mem_map] at hm
  obtain ⟨x, _, rfl⟩ := hm
  exact ⟨cutS_small _, cutS_small _⟩
theorem cutR_fits (r : Rule) : (cutR r).Fits := ⟨cutS_small _, cutS_small _, by simp only [cutR, fewL_len]; omega, fewL_smalls _⟩
end

def d136 : Def := (.code 2 [.tmp 4] (.seq (.rg false [⟨.some 2, .none, .box (.t 0)⟩, ⟨.some 3, .none, .box (.t 1)⟩, ⟨.some 4, .none, .mv (.c (.int .i64 0))⟩]) (.seq (.rg false [⟨.some 5, .none, .fa 0 (.t 2)⟩, ⟨.some 6, .none, .ld .none (.t 5)⟩, ⟨.some 7, .none, .fa 0 (.t 3)⟩, ⟨.some 8, .none, .ld .none (.t 7)⟩, ⟨.some 9, .none, .call 142 .pure [.t 6, .t 8]⟩, ⟨.some 4, .none, .mv (.t 9)⟩]) .ret)))
def d142 : Def := (.code 2 [.tmp 4] (.seq (.rg false [⟨.some 4, .none, .mv (.c (.int .i64 0))⟩]) (.seq (.rg false [⟨.some 5, .none, .mv (.t 0)⟩, ⟨.some 6, .none, .mv (.t 1)⟩, ⟨.some 7, .none, .call 153 .pure [.t 5, .t 6]⟩, ⟨.some 4, .none, .mv (.t 7)⟩]) .ret)))
def d143 : Def := (.code 4 [] (.seq (.rg false [⟨.some 10, .none, .mv (.t 1)⟩, ⟨.some 11, .none, .bin .add (.t 10) (.c (.int .i64 1))⟩, ⟨.some 8, .none, .mv (.t 11)⟩]) (.block 0 (.loop (.seq (.seq (.rg false [⟨.some 12, .none, .mv (.t 8)⟩, ⟨.some 13, .none, .mv (.t 2)⟩, ⟨.some 14, .none, .bin .lss (.t 12) (.t 13)⟩]) (.cond (.t 14) .skip (.exit 0))) (.seq (.block 1 (.seq (.rg false [⟨.some 17, .none, .mv (.t 8)⟩, ⟨.some 9, .none, .mv (.t 17)⟩]) (.block 2 (.loop (.seq (.seq (.rg true [⟨.some 18, .none, .mv (.t 9)⟩, ⟨.some 19, .none, .mv (.t 1)⟩, ⟨.some 20, .none, .bin .gtr (.t 18) (.t 19)⟩, ⟨.some 21, .none, .mv (.t 20)⟩, ⟨.some 22, .some (21, true), .mv (.t 3)⟩, ⟨.some 23, .some (21, true), .mv (.t 0)⟩, ⟨.some 24, .some (21, true), .mv (.t 9)⟩, ⟨.some 25, .some (21, true), .ia 2 (.t 23) (.t 24)⟩, ⟨.some 26, .some (21, true), .ld (.some 2) (.t 25)⟩, ⟨.some 27, .some (21, true), .mv (.t 0)⟩, ⟨.some 28, .some (21, true), .mv (.t 9)⟩, ⟨.some 29, .some (21, true), .bin .sub (.t 28) (.c (.int .i64 1))⟩, ⟨.some 30, .some (21, true), .ia 2 (.t 27) (.t 29)⟩, ⟨.some 31, .some (21, true), .ld (.some 2) (.t 30)⟩, ⟨.some 32, .some (21, true), .callv (.t 22) .strict [.t 26, .t 31]⟩, ⟨.some 33, .some (21, true), .bin .lss (.t 32) (.c (.int .i64 0))⟩, ⟨.some 34, .none, .pick (.t 21) (.t 33) (.c (.bool false))⟩]) (.cond (.t 34) .skip (.exit 2))) (.seq (.block 3 (.rg true [⟨.some 37, .none, .mv (.t 0)⟩, ⟨.some 38, .none, .mv (.t 9)⟩, ⟨.some 39, .none, .mv (.t 0)⟩, ⟨.some 40, .none, .mv (.t 9)⟩, ⟨.some 41, .none, .bin .sub (.t 40) (.c (.int .i64 1))⟩, ⟨.some 42, .none, .mv (.t 0)⟩, ⟨.some 43, .none, .mv (.t 9)⟩, ⟨.some 44, .none, .bin .sub (.t 43) (.c (.int .i64 1))⟩, ⟨.some 45, .none, .ia 2 (.t 42) (.t 44)⟩, ⟨.some 46, .none, .ld (.some 2) (.t 45)⟩, ⟨.some 47, .none, .mv (.t 0)⟩, ⟨.some 48, .none, .mv (.t 9)⟩, ⟨.some 49, .none, .ia 2 (.t 47) (.t 48)⟩, ⟨.some 50, .none, .ld (.some 2) (.t 49)⟩, ⟨.some 51, .none, .ia 2 (.t 37) (.t 38)⟩, ⟨.none, .none, .st 2 (.t 51) (.t 46)⟩, ⟨.some 52, .none, .ia 2 (.t 39) (.t 41)⟩, ⟨.none, .none, .st 2 (.t 52) (.t 50)⟩])) (.rg false [⟨.some 35, .none, .mv (.t 9)⟩, ⟨.some 36, .none, .bin .sub (.t 35) (.c (.int .i64 1))⟩, ⟨.some 9, .none, .mv (.t 36)⟩]))))))) (.rg false [⟨.some 15, .none, .mv (.t 8)⟩, ⟨.some 16, .none, .bin .add (.t 15) (.c (.int .i64 1))⟩, ⟨.some 8, .none, .mv (.t 16)⟩])))))))
def d140 : Def := (.code 5 [] (.seq (.rg false [⟨.some 10, .none, .mv (.c (.bool true))⟩]) (.seq (.rg false [⟨.some 11, .none, .mv (.c (.bool true))⟩]) (.block 0 (.loop (.block 1 (.seq (.rg false [⟨.some 21, .none, .mv (.t 2)⟩, ⟨.some 22, .none, .mv (.t 1)⟩, ⟨.some 23, .none, .bin .sub (.t 21) (.t 22)⟩, ⟨.some 12, .none, .mv (.t 23)⟩]) (.seq (.seq (.rg false [⟨.some 24, .none, .mv (.t 12)⟩, ⟨.some 25, .none, .bin .leq (.t 24) (.c (.int .i64 12))⟩]) (.cond (.t 25) (.seq (.rg false [⟨.some 26, .none, .mv (.t 0)⟩, ⟨.some 27, .none, .mv (.t 1)⟩, ⟨.some 28, .none, .mv (.t 2)⟩, ⟨.some 29, .none, .mv (.t 4)⟩, ⟨.some 30, .none, .call 143 .opn [.t 26, .t 27, .t 28, .t 29]⟩]) .ret) .skip)) (.seq (.seq (.rg false [⟨.some 31, .none, .mv (.t 3)⟩, ⟨.some 32, .none, .bin .eql (.t 31) (.c (.int .i64 0))⟩]) (.cond (.t 32) (.seq (.rg false [⟨.some 33, .none, .mv (.t 0)⟩, ⟨.some 34, .none, .mv (.t 1)⟩, ⟨.some 35, .none, .mv (.t 2)⟩, ⟨.some 36, .none, .mv (.t 4)⟩, ⟨.some 37, .none, .call 144 .pure [.t 33, .t 34, .t 35, .t 36]⟩]) .ret) .skip)) (.seq (.seq (.rg false [⟨.some 38, .none, .mv (.t 10)⟩, ⟨.some 39, .none, .un .not (.t 38)⟩]) (.cond (.t 39) (.seq (.rg false [⟨.some 40, .none, .mv (.t 0)⟩, ⟨.some 41, .none, .mv (.t 1)⟩, ⟨.some 42, .none, .mv (.t 2)⟩, ⟨.some 43, .none, .mv (.t 4)⟩, ⟨.some 44, .none, .call 145 .pure [.t 40, .t 41, .t 42, .t 43]⟩]) (.rg false [⟨.some 45, .none, .mv (.t 3)⟩, ⟨.some 46, .none, .bin .sub (.t 45) (.c (.int .i64 1))⟩, ⟨.some 3, .none, .mv (.t 46)⟩])) .skip)) (.seq (.rg false [⟨.some 48, .none, .mv (.t 0)⟩, ⟨.some 49, .none, .mv (.t 1)⟩, ⟨.some 50, .none, .mv (.t 2)⟩, ⟨.some 51, .none, .mv (.t 4)⟩, ⟨.some 52, .none, .call 146 .pure [.t 48, .t 49, .t 50, .t 51]⟩, ⟨.some 47, .none, .mv (.t 52)⟩, ⟨.some 53, .none, .ext (.t 47) 0⟩, ⟨.some 54, .none, .ext (.t 47) 1⟩, ⟨.some 13, .none, .mv (.t 53)⟩, ⟨.some 14, .none, .mv (.t 54)⟩]) (.seq (.seq (.rg false [⟨.some 55, .none, .mv (.t 14)⟩, ⟨.some 56, .none, .bin .eql (.t 55) (.c (.int .i64 2))⟩]) (.cond (.t 56) (.seq (.rg false [⟨.some 57, .none, .mv (.t 0)⟩, ⟨.some 58, .none, .mv (.t 1)⟩, ⟨.some 59, .none, .mv (.t 2)⟩, ⟨.some 60, .none, .mv (.t 4)⟩, ⟨.some 61, .none, .call 147 .pure [.t 57, .t 58, .t 59, .t 60]⟩]) (.seq (.rg false [⟨.some 62, .none, .mv (.t 2)⟩, ⟨.some 63, .none, .bin .sub (.t 62) (.c (.int .i64 1))⟩, ⟨.some 64, .none, .mv (.t 13)⟩, ⟨.some 65, .none, .mv (.t 1)⟩, ⟨.some 66, .none, .bin .sub (.t 64) (.t 65)⟩, ⟨.some 67, .none, .bin .sub (.t 63) (.t 66)⟩, ⟨.some 13, .none, .mv (.t 67)⟩]) (.rg false [⟨.some 14, .none, .mv (.c (.int .i64 1))⟩]))) .skip)) (.seq (.seq (.rg false [⟨.some 68, .none, .mv (.t 10)⟩, ⟨.some 69, .none, .mv (.t 68)⟩, ⟨.some 70, .some (69, true), .mv (.t 11)⟩, ⟨.some 71, .none, .pick (.t 69) (.t 70) (.c (.bool false))⟩, ⟨.some 72, .none, .mv (.t 71)⟩, ⟨.some 73, .some (72, true), .mv (.t 14)⟩, ⟨.some 74, .some (72, true), .bin .eql (.t 73) (.c (.int .i64 1))⟩, ⟨.some 75, .none, .pick (.t 72) (.t 74) (.c (.bool false))⟩]) (.cond (.t 75) (.seq (.rg false [⟨.some 76, .none, .mv (.t 0)⟩, ⟨.some 77, .none, .mv (.t 1)⟩, ⟨.some 78, .none, .mv (.t 2)⟩, ⟨.some 79, .none, .mv (.t 4)⟩, ⟨.some 80, .none, .call 148 .pure [.t 76, .t 77, .t 78, .t 79]⟩]) (.cond (.t 80) .ret .skip)) .skip)) (.seq (.seq (.rg true [⟨.some 81, .none, .mv (.t 1)⟩, ⟨.some 82, .none, .bin .gtr (.t 81) (.c (.int .i64 0))⟩, ⟨.some 83, .none, .mv (.t 82)⟩, ⟨.some 84, .some (83, true), .mv (.t 4)⟩, ⟨.some 85, .some (83, true), .mv (.t 0)⟩, ⟨.some 86, .some (83, true), .mv (.t 1)⟩, ⟨.some 87, .some (83, true), .bin .sub (.t 86) (.c (.int .i64 1))⟩, ⟨.some 88, .some (83, true), .ia 2 (.t 85) (.t 87)⟩, ⟨.some 89, .some (83, true), .ld (.some 2) (.t 88)⟩, ⟨.some 90, .some (83, true), .mv (.t 0)⟩, ⟨.some 91, .some (83, true), .mv (.t 13)⟩, ⟨.some 92, .some (83, true), .ia 2 (.t 90) (.t 91)⟩, ⟨.some 93, .some (83, true), .ld (.some 2) (.t 92)⟩, ⟨.some 94, .some (83, true), .callv (.t 84) .strict [.t 89, .t 93]⟩, ⟨.some 95, .some (83, true), .bin .lss (.t 94) (.c (.int .i64 0))⟩, ⟨.some 96, .some (83, true), .un .not (.t 95)⟩, ⟨.some 97, .none, .pick (.t 83) (.t 96) (.c (.bool false))⟩]) (.cond (.t 97) (.seq (.rg false [⟨.some 98, .none, .mv (.t 0)⟩, ⟨.some 99, .none, .mv (.t 1)⟩, ⟨.some 100, .none, .mv (.t 2)⟩, ⟨.some 101, .none, .mv (.t 13)⟩, ⟨.some 102, .none, .mv (.t 4)⟩, ⟨.some 103, .none, .call 149 .pure [.t 98, .t 99, .t 100, .t 101, .t 102]⟩, ⟨.some 15, .none, .mv (.t 103)⟩]) (.seq (.rg false [⟨.some 104, .none, .mv (.t 15)⟩, ⟨.some 1, .none, .mv (.t 104)⟩]) (.exit 1))) .skip)) (.seq (.rg false [⟨.some 106, .none, .mv (.t 0)⟩, ⟨.some 107, .none, .mv (.t 1)⟩, ⟨.some 108, .none, .mv (.t 2)⟩, ⟨.some 109, .none, .mv (.t 13)⟩, ⟨.some 110, .none, .mv (.t 4)⟩, ⟨.some 111, .none, .call 150 .pure [.t 106, .t 107, .t 108, .t 109, .t 110]⟩, ⟨.some 105, .none, .mv (.t 111)⟩, ⟨.some 112, .none, .ext (.t 105) 0⟩, ⟨.some 113, .none, .ext (.t 105) 1⟩, ⟨.some 16, .none, .mv (.t 112)⟩, ⟨.some 17, .none, .mv (.t 113)⟩]) (.seq (.rg false [⟨.some 114, .none, .mv (.t 17)⟩, ⟨.some 11, .none, .mv (.t 114)⟩]) (.seq (.rg false [⟨.some 115, .none, .mv (.t 16)⟩, ⟨.some 116, .none, .mv (.t 1)⟩, ⟨.some 117, .none, .bin .sub (.t 115) (.t 116)⟩, ⟨.some 118, .none, .mv (.t 2)⟩, ⟨.some 119, .none, .mv (.t 16)⟩, ⟨.some 120, .none, .bin .sub (.t 118) (.t 119)⟩, ⟨.some 18, .none, .mv (.t 117)⟩, ⟨.some 19, .none, .mv (.t 120)⟩]) (.seq (.rg false [⟨.some 121, .none, .mv (.t 12)⟩, ⟨.some 122, .none, .bin .quo (.t 121) (.c (.int .i64 8))⟩, ⟨.some 20, .none, .mv (.t 122)⟩]) (.seq (.rg false [⟨.some 123, .none, .mv (.t 18)⟩, ⟨.some 124, .none, .mv (.t 19)⟩, ⟨.some 125, .none, .bin .lss (.t 123) (.t 124)⟩]) (.cond (.t 125) (.seq (.rg false [⟨.some 126, .none, .mv (.t 18)⟩, ⟨.some 127, .none, .mv (.t 20)⟩, ⟨.some 128, .none, .bin .geq (.t 126) (.t 127)⟩, ⟨.some 10, .none, .mv (.t 128)⟩]) (.seq (.rg false [⟨.some 129, .none, .mv (.t 0)⟩, ⟨.some 130, .none, .mv (.t 1)⟩, ⟨.some 131, .none, .mv (.t 16)⟩, ⟨.some 132, .none, .mv (.t 3)⟩, ⟨.some 133, .none, .mv (.t 4)⟩, ⟨.some 134, .none, .call 140 .opn [.t 129, .t 130, .t 131, .t 132, .t 133]⟩]) (.rg false [⟨.some 135, .none, .mv (.t 16)⟩, ⟨.some 136, .none, .bin .add (.t 135) (.c (.int .i64 1))⟩, ⟨.some 1, .none, .mv (.t 136)⟩]))) (.seq (.rg false [⟨.some 137, .none, .mv (.t 19)⟩, ⟨.some 138, .none, .mv (.t 20)⟩, ⟨.some 139, .none, .bin .geq (.t 137) (.t 138)⟩, ⟨.some 10, .none, .mv (.t 139)⟩]) (.seq (.rg false [⟨.some 140, .none, .mv (.t 0)⟩, ⟨.some 141, .none, .mv (.t 16)⟩, ⟨.some 142, .none, .bin .add (.t 141) (.c (.int .i64 1))⟩, ⟨.some 143, .none, .mv (.t 2)⟩, ⟨.some 144, .none, .mv (.t 3)⟩, ⟨.some 145, .none, .mv (.t 4)⟩, ⟨.some 146, .none, .call 140 .opn [.t 140, .t 142, .t 143, .t 144, .t 145]⟩]) (.rg false [⟨.some 147, .none, .mv (.t 16)⟩, ⟨.some 2, .none, .mv (.t 147)⟩])))))))))))))))))))))))
def d135 : Def := (.code 2 [] (.seq (.rg false [⟨.some 5, .none, .mv (.t 0)⟩, ⟨.some 6, .none, .lenL (.t 5)⟩, ⟨.some 4, .none, .mv (.t 6)⟩]) (.rg false [⟨.some 7, .none, .mv (.t 0)⟩, ⟨.some 8, .none, .mv (.t 4)⟩, ⟨.some 9, .none, .mv (.t 4)⟩, ⟨.some 10, .none, .cvi .u64 (.t 9)⟩, ⟨.some 11, .none, .call 141 .pure [.t 10]⟩, ⟨.some 12, .none, .mv (.t 1)⟩, ⟨.some 13, .none, .call 140 .opn [.t 7, .c (.int .i64 0), .t 8, .t 11, .t 12]⟩])))
def lo : List (Nat × Def) := [(136, d136), (142, d142), (143, d143), (140, d140), (135, d135), (153, .prim cmpF)]
section
variable {env : Nat → Option Def} {fr : Fr} {σ : St} {K : Fr → St → Prop} {Q : X → Fr → St → Prop}
def cmpB (a b : ByteArray) : Int := Lib.compareBytes a.data.toList b.data.toList
theorem cmp_less : ∀ a b : List UInt8, decide (Lib.compareBytes a b < 0) = Op.bytesLess a b
  | [], [] => rfl
  | [], _ :: _ => rfl
  | _ :: _, [] => rfl
  | a :: x, b :: y => by
    have ih := cmp_less x y
    simp only [Lib.compareBytes, Op.bytesLess]
    by_cases h1 : a < b
    · simp [h1]
    · by_cases h2 : b < a
      · have h3 : a ≠ b := fun h => by rw [h] at h2; exact UInt8.lt_irrefl _ h2
        simp [h1, h2, h3]
      · have h3 : a = b := by
          rw [UInt8.lt_iff_toNat_lt] at h1 h2
          exact UInt8.toNat_inj.1 (by omega)
        subst h3
        simp [UInt8.lt_irrefl, ← ih]
theorem cmpB_less (a b : ByteArray) : decide (cmpB a b < 0) = lessB a b := by
  unfold cmpB lessB
  rw [ByteArray.toList_eq, ByteArray.toList_eq, cmp_less]
theorem a153 (O : Has lo env) (a b : ByteArray) : AV env 153 [.sc (.string a), .sc (.string b)] = some (.sc (.int .i64 (cmpB a b))) := by
  have h := O (153, .prim cmpF) (by simp [lo])
  refine AV_of (σ := St.nil) (r := .sc (.int .i64 (cmpB a b))) ?_ rfl
  exact EV_of (n := 1) (by simp only [evF, h]; rfl)
theorem a142 (O : Has lo env) (a b : ByteArray) : AV env 142 [.sc (.string a), .sc (.string b)] = some (.sc (.int .i64 (cmpB a b))) := by
  have h := a153 O a b
  refine AV_wp (O (142, d142) (by simp [lo])) rfl ?_
  (repeat' first
    | refine w_seq ?_ | refine w_rg ?_ | refine wo_nil ?_ | refine g_skU ?_ | refine g_skT ?_ | refine g_skF ?_
    | ((first | apply s_plain | apply s_void | apply s_guard | apply g_goT | apply g_goF); · simp only [go_sem, Nat.reduceEqDiff, Nat.reduceAdd, Nat.reduceLeDiff, h]; (first | done | rfl))
    | ((first | apply g_T | apply g_F | apply g_gT | apply g_gF); · intro q1_; (first | intro q2_ | have q2_ := q1_); simp only [go_sem, Nat.reduceEqDiff, Nat.reduceAdd, Nat.reduceLeDiff, h, q1_, q2_]; (first | done | rfl))
    | (apply w_condX; · simp only [go_sem, Nat.reduceEqDiff, Nat.reduceAdd, Nat.reduceLeDiff, h]; (first | done | rfl)); (first | refine wcd_T ?_ | refine wcd_F ?_)
    | refine w_skip ?_ | refine w_exit ?_ | refine w_ret ?_
    | fail
    )
  exact ⟨.inr rfl, by simp only [go_sem, Nat.reduceEqDiff, Nat.reduceAdd, Nat.reduceLeDiff, retOf, resOf]⟩
theorem a136 (O : Has lo env) (x y : Lab) : AV env 136 [lab x, lab y] = some (.sc (.int .i64 (cmpB x.1 y.1))) := by
  have h := a142 O x.1 y.1
  refine AV_wp (O (136, d136) (by simp [lo])) rfl ?_
  unfold lab
  (repeat' first
    | refine w_seq ?_ | refine w_rg ?_ | refine wo_nil ?_ | refine g_skU ?_ | refine g_skT ?_ | refine g_skF ?_
    | ((first | apply s_plain | apply s_void | apply s_guard | apply g_goT | apply g_goF); · simp only [go_sem, Nat.reduceEqDiff, Nat.reduceAdd, Nat.reduceLeDiff, h]; (first | done | rfl))
    | ((first | apply g_T | apply g_F | apply g_gT | apply g_gF); · intro q1_; (first | intro q2_ | have q2_ := q1_); simp only [go_sem, Nat.reduceEqDiff, Nat.reduceAdd, Nat.reduceLeDiff, h, q1_, q2_]; (first | done | rfl))
    | (apply w_condX; · simp only [go_sem, Nat.reduceEqDiff, Nat.reduceAdd, Nat.reduceLeDiff, h]; (first | done | rfl)); (first | refine wcd_T ?_ | refine wcd_F ?_)
    | refine w_skip ?_ | refine w_exit ?_ | refine w_ret ?_
    | fail
    )
  exact ⟨.inr rfl, by simp only [go_sem, Nat.reduceEqDiff, Nat.reduceAdd, Nat.reduceLeDiff, retOf, resOf]⟩
def insAt (m : Lab) (a : List Lab) : Nat → List Lab
  | 0 => m :: a
  | k + 1 => if lessB m.1 (nth a k).1 then insAt m a k else a.take (k + 1) ++ m :: a.drop (k + 1)
def insR (a : List Lab) (m : Lab) : List Lab := insAt m a a.length
def sortedL (l : List Lab) : List Lab := l.foldl insR []
theorem insAt_len (m : Lab) (a : List Lab) : ∀ k, k ≤ a.length → (insAt m a k).length = a.length + 1
  | 0, _ => rfl
  | k + 1, h => by
    simp only [insAt]
    split
    · exact insAt_len m a k (by omega)
    · simp; omega
theorem insR_len (a : List Lab) (m : Lab) : (insR a m).length = a.length + 1 := insAt_len m a a.length (Nat.le_refl _)
theorem foldl_len : ∀ (l a : List Lab), (l.foldl insR a).length = a.length + l.length
  | [], a => rfl
  | m :: l, a => by simp only [List.foldl_cons, foldl_len l, insR_len, List.length_cons]; omega
theorem sortedL_len (l : List Lab) : (sortedL l).length = l.length := by simp [sortedL, foldl_len]
theorem sortedL_succ {l : List Lab} {i : Nat} (hi : i < l.length) : sortedL (l.take (i + 1)) = insR (sortedL (l.take i)) l[i] := by
  unfold sortedL
  rw [List.take_succ_eq_append_getElem hi, List.foldl_append]
  rfl
def midL (a : List Lab) (m : Lab) (rest : List Lab) (j : Nat) : List Lab := a.take j ++ m :: (a.drop j ++ rest)
theorem midL_len (a : List Lab) (m : Lab) (rest : List Lab) (j : Nat) (hj : j ≤ a.length) : (midL a m rest j).length = a.length + 1 + rest.length := by
  simp [midL]; omega
theorem midL_at {a : List Lab} {m : Lab} {rest : List Lab} {j : Nat} (hj : j ≤ a.length) : (midL a m rest j)[j]? = some m := by
  unfold midL
  rw [List.getElem?_append_right (by simp; omega)]
  simp [Nat.min_eq_left hj]
theorem midL_before {a : List Lab} {m : Lab} {rest : List Lab} {j : Nat} (hj : j + 1 ≤ a.length) : (midL a m rest (j + 1))[j]? = some (nth a j) := by
  unfold midL
  rw [List.getElem?_append_left (by simp; omega), List.getElem?_take, if_pos (by omega), nth, List.getElem?_eq_getElem (show j < a.length by omega)]
  rfl
theorem midL_swap {a : List Lab} {m : Lab} {rest : List Lab} {j : Nat} (hj : j + 1 ≤ a.length) : ((midL a m rest (j + 1)).set (j + 1) (nth a j)).set j m = midL a m rest j := by
  have hx : a[j]? = some (nth a j) := by rw [nth, List.getElem?_eq_getElem (show j < a.length by omega)]; rfl
  have hp : a.take (j + 1) = a.take j ++ [nth a j] := by
    rw [List.take_add_one, hx]; rfl
  have hd : a.drop j = nth a j :: a.drop (j + 1) := by
    have := List.drop_eq_getElem_cons (l := a) (i := j) (by omega)
    rw [this]
    congr 1
    rw [List.getElem?_eq_getElem (show j < a.length by omega)] at hx
    exact Option.some.inj hx
  have hlen : (a.take j).length = j := by simp; omega
  unfold midL
  rw [hp, hd]
  have e1 : a.take j ++ [nth a j] ++ m :: (a.drop (j + 1) ++ rest) = a.take j ++ nth a j :: m :: (a.drop (j + 1) ++ rest) := by simp
  rw [e1]
  rw [List.set_append_right _ _ (by omega), List.set_append_right _ _ (by omega), hlen]
  simp
theorem labs_set (l : List Lab) (i : Nat) (m : Lab) : (labs l).set i (lab m) = labs (l.set i m) := by
  unfold labs; rw [List.map_set]
theorem modify_set {α : Type} (l : List α) (i : Nat) (v : α) : l.modify i (fun _ => v) = l.set i v := by
  induction l generalizing i with
  | nil => simp
  | cons x r ih =>
    cases i with
    | zero => simp
    | succ i => simp [ih]
structure Down (o g n i : Nat) (a : List Lab) (m : Lab) (rest : List Lab) (j : Nat) (fr : Fr) (σ : St) : Prop where
  le : j ≤ a.length
  f0 : fr 0 = .ob o g 2 0 n
  f1 : fr 1 = .sc (.int .i64 0)
  f2 : fr 2 = .sc (.int .i64 n)
  f3 : fr 3 = .fn 136 [] []
  f8 : fr 8 = .sc (.int .i64 i)
  f9 : fr 9 = .sc (.int .i64 j)
  mm : σ.m o g = some ⟨2, labs (midL a m rest j), true, true⟩
  ins : insAt m a a.length = insAt m a j
theorem a143 (O : Has lo env) {l : List Lab} (hn : l.length ≤ 1000000) {o g : Nat} (hm : σ.m o g = some ⟨2, labs l, true, true⟩) :
    ∃ r σ', EV env 143 [.ob o g 2 0 l.length, .sc (.int .i64 0), .sc (.int .i64 l.length), .fn 136 [] []] σ = some (r, σ') ∧ (r = .tu [] ∧ σ'.m o g = some ⟨2, labs (sortedL l), true, true⟩) := by
  refine EV_wp' (O (143, d143) (by simp [lo])) rfl ?_
  (repeat' first
    | refine w_seq ?_ | refine w_rg ?_ | refine wo_nil ?_ | refine g_skU ?_ | refine g_skT ?_ | refine g_skF ?_
    | ((first | apply s_plain | apply s_void | apply s_guard | apply g_goT | apply g_goF); · simp only [go_sem, Nat.reduceEqDiff, Nat.reduceAdd, Nat.reduceLeDiff]; (first | done | rfl))
    | ((first | apply g_T | apply g_F | apply g_gT | apply g_gF); · intro q1_; (first | intro q2_ | have q2_ := q1_); simp only [go_sem, Nat.reduceEqDiff, Nat.reduceAdd, Nat.reduceLeDiff, q1_, q2_]; (first | done | rfl))
    | fail
    )
  refine w_block (w_count (l.length - 1) (fun c fr σ => fr 0 = .ob o g 2 0 l.length ∧ fr 1 = .sc (.int .i64 0) ∧ fr 2 = .sc (.int .i64 l.length) ∧ fr 3 = .fn 136 [] [] ∧ fr 8 = .sc (.int .i64 ((c + 1 : Nat) : Int)) ∧
    σ.m o g = some ⟨2, labs (sortedL (l.take (c + 1)) ++ l.drop (c + 1)), true, true⟩) ?_ _ _ ?_)
  · rintro c fr σ hc ⟨f0, f1, f2, f3, f8, mm⟩
    by_cases hlt : c + 1 < l.length
    · have hd : decide (((c + 1 : Nat) : Int) < (l.length : Int)) = true := by simp; omega
      (repeat' first
    | refine w_seq ?_ | refine w_rg ?_ | refine wo_nil ?_ | refine g_skU ?_ | refine g_skT ?_ | refine g_skF ?_
    | ((first | apply s_plain | apply s_void | apply s_guard | apply g_goT | apply g_goF); · simp only [go_sem, Nat.reduceEqDiff, Nat.reduceAdd, Nat.reduceLeDiff, f0, f1, f2, f3, f8, hd]; (first | done | rfl))
    | ((first | apply g_T | apply g_F | apply g_gT | apply g_gF); · intro q1_; (first | intro q2_ | have q2_ := q1_); simp only [go_sem, Nat.reduceEqDiff, Nat.reduceAdd, Nat.reduceLeDiff, f0, f1, f2, f3, f8, hd, q1_, q2_]; (first | done | rfl))
    | (apply w_condX; · simp only [go_sem, Nat.reduceEqDiff, Nat.reduceAdd, Nat.reduceLeDiff, f0, f1, f2, f3, f8, hd]; (first | done | rfl)); (first | refine wcd_T ?_ | refine wcd_F ?_)
    | refine w_skip ?_ | refine w_exit ?_ | refine w_ret ?_
    | fail
    )
      refine w_block ?_
      (repeat' first
    | refine w_seq ?_ | refine w_rg ?_ | refine wo_nil ?_ | refine g_skU ?_ | refine g_skT ?_ | refine g_skF ?_
    | ((first | apply s_plain | apply s_void | apply s_guard | apply g_goT | apply g_goF); · simp only [go_sem, Nat.reduceEqDiff, Nat.reduceAdd, Nat.reduceLeDiff, f0, f1, f2, f3, f8]; (first | done | rfl))
    | ((first | apply g_T | apply g_F | apply g_gT | apply g_gF); · intro q1_; (first | intro q2_ | have q2_ := q1_); simp only [go_sem, Nat.reduceEqDiff, Nat.reduceAdd, Nat.reduceLeDiff, f0, f1, f2, f3, f8, q1_, q2_]; (first | done | rfl))
    | fail
    )
      have hal : (sortedL (l.take (c + 1))).length = c + 1 := by rw [sortedL_len, List.length_take]; omega
      have harr : sortedL (l.take (c + 1)) ++ l.drop (c + 1) = midL (sortedL (l.take (c + 1))) l[c + 1] (l.drop (c + 2)) (c + 1) := by
        have t1 : (sortedL (l.take (c + 1))).take (c + 1) = sortedL (l.take (c + 1)) := List.take_of_length_le (by omega)
        have t2 : (sortedL (l.take (c + 1))).drop (c + 1) = [] := List.drop_eq_nil_of_le (by omega)
        unfold midL
        rw [t1, t2, List.drop_eq_getElem_cons (l := l) (i := c + 1) hlt]
        rfl
      refine w_block (w_loop (fun j fr σ => Down o g l.length (c + 1) (sortedL (l.take (c + 1))) l[c + 1] (l.drop (c + 2)) j fr σ) ?_ (c + 1) _ _ ?_)
      · rintro j fr σ ⟨hle, g0, g1, g2, g3, g8, g9, gm, gi⟩
        have hlen : (labs (midL (sortedL (l.take (c + 1))) l[c + 1] (l.drop (c + 2)) j)).length = l.length := by
          rw [labs_len, midL_len _ _ _ _ hle, hal, List.length_drop]; omega
        have e8 : IntKind.i64.wrap (((c + 1 : Nat) : Int) + 1) = ((c + 1 + 1 : Nat) : Int) := wrap_succ hlt (by omega)
        generalize hA : labs (midL (sortedL (l.take (c + 1))) l[c + 1] (l.drop (c + 2)) j) = A at gm hlen
        cases j with
        | zero =>
          have hd0 : decide (((0 : Nat) : Int) > 0) = false := rfl
          (repeat' first
    | refine w_seq ?_ | refine w_rg ?_ | refine wo_nil ?_ | refine g_skU ?_ | refine g_skT ?_ | refine g_skF ?_
    | ((first | apply s_plain | apply s_void | apply s_guard | apply g_goT | apply g_goF); · simp only [go_sem, Nat.reduceEqDiff, Nat.reduceAdd, Nat.reduceLeDiff, g0, g1, g2, g3, g9, hd0]; (first | done | rfl))
    | ((first | apply g_T | apply g_F | apply g_gT | apply g_gF); · intro q1_; (first | intro q2_ | have q2_ := q1_); simp only [go_sem, Nat.reduceEqDiff, Nat.reduceAdd, Nat.reduceLeDiff, g0, g1, g2, g3, g9, hd0, q1_, q2_]; (first | done | rfl))
    | (apply w_condX; · simp only [go_sem, Nat.reduceEqDiff, Nat.reduceAdd, Nat.reduceLeDiff, g0, g1, g2, g3, g9, hd0]; (first | done | rfl)); (first | refine wcd_T ?_ | refine wcd_F ?_)
    | refine w_skip ?_ | refine w_exit ?_ | refine w_ret ?_
    | fail
    )
          try simp only [if_true]
          (repeat' first
    | refine w_seq ?_ | refine w_rg ?_ | refine wo_nil ?_ | refine g_skU ?_ | refine g_skT ?_ | refine g_skF ?_
    | ((first | apply s_plain | apply s_void | apply s_guard | apply g_goT | apply g_goF); · simp only [go_sem, Nat.reduceEqDiff, Nat.reduceAdd, Nat.reduceLeDiff, g8]; (first | done | rfl))
    | ((first | apply g_T | apply g_F | apply g_gT | apply g_gF); · intro q1_; (first | intro q2_ | have q2_ := q1_); simp only [go_sem, Nat.reduceEqDiff, Nat.reduceAdd, Nat.reduceLeDiff, g8, q1_, q2_]; (first | done | rfl))
    | (apply w_condX; · simp only [go_sem, Nat.reduceEqDiff, Nat.reduceAdd, Nat.reduceLeDiff, g8]; (first | done | rfl)); (first | refine wcd_T ?_ | refine wcd_F ?_)
    | refine w_skip ?_ | refine w_exit ?_ | refine w_ret ?_
    | fail
    )
          have hfin : midL (sortedL (l.take (c + 1))) l[c + 1] (l.drop (c + 2)) 0 = sortedL (l.take (c + 2)) ++ l.drop (c + 2) := by
            rw [sortedL_succ hlt, insR, gi]
            simp [midL, insAt]
          refine ⟨by omega, ?_, ?_, ?_, ?_, ?_, ?_⟩
          · simp only [go_sem, Nat.reduceEqDiff, Nat.reduceAdd, Nat.reduceLeDiff, g0]
          · simp only [go_sem, Nat.reduceEqDiff, Nat.reduceAdd, Nat.reduceLeDiff, g1]
          · simp only [go_sem, Nat.reduceEqDiff, Nat.reduceAdd, Nat.reduceLeDiff, g2]
          · simp only [go_sem, Nat.reduceEqDiff, Nat.reduceAdd, Nat.reduceLeDiff, g3]
          · simp only [go_sem, Nat.reduceEqDiff, Nat.reduceAdd, Nat.reduceLeDiff, e8]
          · rw [← hfin, hA]; exact gm
        | succ j =>
          have hd1 : decide (((j + 1 : Nat) : Int) > 0) = true := decide_eq_true (by omega)
          have e2 : IntKind.i64.wrap (((j + 1 : Nat) : Int) - 1) = (j : Int) := by rw [IntKind.wrap_i64]; omega
          have e3 : (0 : Int) ≤ ((j + 1 : Nat) : Int) ∧ ((j + 1 : Nat) : Int) < (l.length : Int) := by omega
          have e4 : (0 : Int) ≤ (j : Int) ∧ (j : Int) < (l.length : Int) := by omega
          have x1 : A[j + 1]? = some (.agg [.sc (.string l[c + 1].1), .sc (.string l[c + 1].2)]) := by rw [← hA]; exact labs_at (midL_at hle)
          have x0 : A[j]? = some (.agg [.sc (.string (nth (sortedL (l.take (c + 1))) j).1), .sc (.string (nth (sortedL (l.take (c + 1))) j).2)]) := by rw [← hA]; exact labs_at (midL_before hle)
          have h136 := a136 O l[c + 1] (nth (sortedL (l.take (c + 1))) j)
          simp only [lab] at h136
          have l1 : j + 1 < A.length := by rw [hlen]; omega
          have l0 : j < A.length := by omega
          (repeat' first
    | refine w_seq ?_ | refine w_rg ?_ | refine wo_nil ?_ | refine g_skU ?_ | refine g_skT ?_ | refine g_skF ?_
    | ((first | apply s_plain | apply s_void | apply s_guard | apply g_goT | apply g_goF); · simp only [go_sem, Nat.reduceEqDiff, Nat.reduceAdd, Nat.reduceLeDiff, g0, g1, g2, g3, g9, gm, hd1, e2, e3, e4, Int.toNat_natCast, x1, x0, h136, cmpB_less]; (first | done | rfl))
    | ((first | apply g_T | apply g_F | apply g_gT | apply g_gF); · intro q1_; (first | intro q2_ | have q2_ := q1_); simp only [go_sem, Nat.reduceEqDiff, Nat.reduceAdd, Nat.reduceLeDiff, g0, g1, g2, g3, g9, gm, hd1, e2, e3, e4, Int.toNat_natCast, x1, x0, h136, cmpB_less, q1_, q2_]; (first | done | rfl))
    | fail
    )
          have hins : insAt l[c + 1] (sortedL (l.take (c + 1))) (j + 1) = if lessB l[c + 1].1 (nth (sortedL (l.take (c + 1))) j).1 then insAt l[c + 1] (sortedL (l.take (c + 1))) j else (sortedL (l.take (c + 1))).take (j + 1) ++ l[c + 1] :: (sortedL (l.take (c + 1))).drop (j + 1) := rfl
          cases hls : lessB l[c + 1].1 (nth (sortedL (l.take (c + 1))) j).1 with
          | false =>
            rw [hls, if_neg (by decide)] at hins
            (repeat' first
    | refine w_seq ?_ | refine w_rg ?_ | refine wo_nil ?_ | refine g_skU ?_ | refine g_skT ?_ | refine g_skF ?_
    | ((first | apply s_plain | apply s_void | apply s_guard | apply g_goT | apply g_goF); · simp only [go_sem, Nat.reduceEqDiff, Nat.reduceAdd, Nat.reduceLeDiff]; (first | done | rfl))
    | ((first | apply g_T | apply g_F | apply g_gT | apply g_gF); · intro q1_; (first | intro q2_ | have q2_ := q1_); simp only [go_sem, Nat.reduceEqDiff, Nat.reduceAdd, Nat.reduceLeDiff, q1_, q2_]; (first | done | rfl))
    | (apply w_condX; · simp only [go_sem, Nat.reduceEqDiff, Nat.reduceAdd, Nat.reduceLeDiff]; (first | done | rfl)); (first | refine wcd_T ?_ | refine wcd_F ?_)
    | refine w_skip ?_ | refine w_exit ?_ | refine w_ret ?_
    | fail
    )
            try simp only [if_true]
            (repeat' first
    | refine w_seq ?_ | refine w_rg ?_ | refine wo_nil ?_ | refine g_skU ?_ | refine g_skT ?_ | refine g_skF ?_
    | ((first | apply s_plain | apply s_void | apply s_guard | apply g_goT | apply g_goF); · simp only [go_sem, Nat.reduceEqDiff, Nat.reduceAdd, Nat.reduceLeDiff, g8]; (first | done | rfl))
    | ((first | apply g_T | apply g_F | apply g_gT | apply g_gF); · intro q1_; (first | intro q2_ | have q2_ := q1_); simp only [go_sem, Nat.reduceEqDiff, Nat.reduceAdd, Nat.reduceLeDiff, g8, q1_, q2_]; (first | done | rfl))
    | (apply w_condX; · simp only [go_sem, Nat.reduceEqDiff, Nat.reduceAdd, Nat.reduceLeDiff, g8]; (first | done | rfl)); (first | refine wcd_T ?_ | refine wcd_F ?_)
    | refine w_skip ?_ | refine w_exit ?_ | refine w_ret ?_
    | fail
    )
            have hfin : midL (sortedL (l.take (c + 1))) l[c + 1] (l.drop (c + 2)) (j + 1) = sortedL (l.take (c + 2)) ++ l.drop (c + 2) := by
              rw [sortedL_succ hlt, insR, gi, hins]
              simp [midL]
            refine ⟨by omega, ?_, ?_, ?_, ?_, ?_, ?_⟩
            · simp only [go_sem, Nat.reduceEqDiff, Nat.reduceAdd, Nat.reduceLeDiff, g0]
            · simp only [go_sem, Nat.reduceEqDiff, Nat.reduceAdd, Nat.reduceLeDiff, g1]
            · simp only [go_sem, Nat.reduceEqDiff, Nat.reduceAdd, Nat.reduceLeDiff, g2]
            · simp only [go_sem, Nat.reduceEqDiff, Nat.reduceAdd, Nat.reduceLeDiff, g3]
            · simp only [go_sem, Nat.reduceEqDiff, Nat.reduceAdd, Nat.reduceLeDiff, e8]
            · rw [← hfin, hA]; exact gm
          | true =>
            rw [hls, if_pos rfl] at hins
            (repeat' first
    | refine w_seq ?_ | refine w_rg ?_ | refine wo_nil ?_ | refine g_skU ?_ | refine g_skT ?_ | refine g_skF ?_
    | ((first | apply s_plain | apply s_void | apply s_guard | apply g_goT | apply g_goF); · simp only [go_sem, Nat.reduceEqDiff, Nat.reduceAdd, Nat.reduceLeDiff]; (first | done | rfl))
    | ((first | apply g_T | apply g_F | apply g_gT | apply g_gF); · intro q1_; (first | intro q2_ | have q2_ := q1_); simp only [go_sem, Nat.reduceEqDiff, Nat.reduceAdd, Nat.reduceLeDiff, q1_, q2_]; (first | done | rfl))
    | (apply w_condX; · simp only [go_sem, Nat.reduceEqDiff, Nat.reduceAdd, Nat.reduceLeDiff]; (first | done | rfl)); (first | refine wcd_T ?_ | refine wcd_F ?_)
    | refine w_skip ?_ | refine w_exit ?_ | refine w_ret ?_
    | fail
    )
            refine w_block ?_
            (repeat' first
    | refine w_seq ?_ | refine w_rg ?_ | refine wo_nil ?_ | refine g_skU ?_ | refine g_skT ?_ | refine g_skF ?_
    | ((first | apply s_plain | apply s_void | apply s_guard | apply g_goT | apply g_goF); · simp only [go_sem, Nat.reduceEqDiff, Nat.reduceAdd, Nat.reduceLeDiff, g0, g1, g2, g3, g9, gm, hd1, e2, e3, e4, Int.toNat_natCast, x1, x0, l1, l0, List.length_modify]; (first | done | rfl))
    | ((first | apply g_T | apply g_F | apply g_gT | apply g_gF); · intro q1_; (first | intro q2_ | have q2_ := q1_); simp only [go_sem, Nat.reduceEqDiff, Nat.reduceAdd, Nat.reduceLeDiff, g0, g1, g2, g3, g9, gm, hd1, e2, e3, e4, Int.toNat_natCast, x1, x0, l1, l0, List.length_modify, q1_, q2_]; (first | done | rfl))
    | (apply w_condX; · simp only [go_sem, Nat.reduceEqDiff, Nat.reduceAdd, Nat.reduceLeDiff, g0, g1, g2, g3, g9, gm, hd1, e2, e3, e4, Int.toNat_natCast, x1, x0, l1, l0, List.length_modify]; (first | done | rfl)); (first | refine wcd_T ?_ | refine wcd_F ?_)
    | refine w_skip ?_ | refine w_exit ?_ | refine w_ret ?_
    | fail
    )
            refine ⟨j, by omega, by omega, ?_, ?_, ?_, ?_, ?_, ?_, ?_, ?_⟩
            · simp only [go_sem, Nat.reduceEqDiff, Nat.reduceAdd, Nat.reduceLeDiff, g0]
            · simp only [go_sem, Nat.reduceEqDiff, Nat.reduceAdd, Nat.reduceLeDiff, g1]
            · simp only [go_sem, Nat.reduceEqDiff, Nat.reduceAdd, Nat.reduceLeDiff, g2]
            · simp only [go_sem, Nat.reduceEqDiff, Nat.reduceAdd, Nat.reduceLeDiff, g3]
            · simp only [go_sem, Nat.reduceEqDiff, Nat.reduceAdd, Nat.reduceLeDiff, g8]
            · simp only [go_sem, Nat.reduceEqDiff, Nat.reduceAdd, Nat.reduceLeDiff]
            · simp only [go_sem, Nat.reduceEqDiff, Nat.reduceAdd, Nat.reduceLeDiff, gm]
              have q : ((labs (midL (sortedL (l.take (c + 1))) l[c + 1] (l.drop (c + 2)) (j + 1))).set (j + 1) (lab (nth (sortedL (l.take (c + 1))) j))).set j (lab l[c + 1]) = labs (midL (sortedL (l.take (c + 1))) l[c + 1] (l.drop (c + 2)) j) := by
                rw [labs_set, labs_set, midL_swap hle]
              rw [← hA, modify_set, modify_set]
              exact congrArg (fun xs => some (Obj.mk 2 xs true true)) q
            · rw [gi, hins]
      · refine ⟨by omega, ?_, ?_, ?_, ?_, ?_, ?_, ?_, ?_⟩
        · simp only [go_sem, Nat.reduceEqDiff, Nat.reduceAdd, Nat.reduceLeDiff, f0]
        · simp only [go_sem, Nat.reduceEqDiff, Nat.reduceAdd, Nat.reduceLeDiff, f1]
        · simp only [go_sem, Nat.reduceEqDiff, Nat.reduceAdd, Nat.reduceLeDiff, f2]
        · simp only [go_sem, Nat.reduceEqDiff, Nat.reduceAdd, Nat.reduceLeDiff, f3]
        · simp only [go_sem, Nat.reduceEqDiff, Nat.reduceAdd, Nat.reduceLeDiff, f8]
        · simp only [go_sem, Nat.reduceEqDiff, Nat.reduceAdd, Nat.reduceLeDiff, f8]
        · rw [← harr]; exact mm
        · rw [hal]
    · have hd : decide (((c + 1 : Nat) : Int) < (l.length : Int)) = false := by simp; omega
      (repeat' first
    | refine w_seq ?_ | refine w_rg ?_ | refine wo_nil ?_ | refine g_skU ?_ | refine g_skT ?_ | refine g_skF ?_
    | ((first | apply s_plain | apply s_void | apply s_guard | apply g_goT | apply g_goF); · simp only [go_sem, Nat.reduceEqDiff, Nat.reduceAdd, Nat.reduceLeDiff, f0, f1, f2, f3, f8, hd]; (first | done | rfl))
    | ((first | apply g_T | apply g_F | apply g_gT | apply g_gF); · intro q1_; (first | intro q2_ | have q2_ := q1_); simp only [go_sem, Nat.reduceEqDiff, Nat.reduceAdd, Nat.reduceLeDiff, f0, f1, f2, f3, f8, hd, q1_, q2_]; (first | done | rfl))
    | (apply w_condX; · simp only [go_sem, Nat.reduceEqDiff, Nat.reduceAdd, Nat.reduceLeDiff, f0, f1, f2, f3, f8, hd]; (first | done | rfl)); (first | refine wcd_T ?_ | refine wcd_F ?_)
    | refine w_skip ?_ | refine w_exit ?_ | refine w_ret ?_
    | fail
    )
      simp only [if_true]
      have h1 : sortedL (l.take (c + 1)) ++ l.drop (c + 1) = sortedL l := by
        rw [List.take_of_length_le (by omega : l.length ≤ c + 1), List.drop_eq_nil_of_le (by omega : l.length ≤ c + 1), List.append_nil]
      rw [h1] at mm
      exact ⟨by first | exact .inl rfl | exact .inl trivial, _, rfl, rfl, mm⟩
  · have h1 : sortedL (l.take (0 + 1)) ++ l.drop (0 + 1) = l := by
      cases l with
      | nil => rfl
      | cons x r => rfl
    refine ⟨?_, ?_, ?_, ?_, ?_, ?_⟩
    · simp only [go_sem, Nat.reduceEqDiff, Nat.reduceAdd, Nat.reduceLeDiff]
    · simp only [go_sem, Nat.reduceEqDiff, Nat.reduceAdd, Nat.reduceLeDiff]
    · simp only [go_sem, Nat.reduceEqDiff, Nat.reduceAdd, Nat.reduceLeDiff]
    · rfl
    · simp only [go_sem, Nat.reduceEqDiff, Nat.reduceAdd, Nat.reduceLeDiff]; (first | done | rfl)
    · rw [h1]; exact hm
theorem a143e (O : Has lo env) : EV env 143 [.em, .sc (.int .i64 0), .sc (.int .i64 0), .fn 136 [] []] σ = some (.tu [], σ) := by
  refine EV_wp (O (143, d143) (by simp [lo])) rfl ?_
  (repeat' first
    | refine w_seq ?_ | refine w_rg ?_ | refine wo_nil ?_ | refine g_skU ?_ | refine g_skT ?_ | refine g_skF ?_
    | ((first | apply s_plain | apply s_void | apply s_guard | apply g_goT | apply g_goF); · simp only [go_sem, Nat.reduceEqDiff, Nat.reduceAdd, Nat.reduceLeDiff]; (first | done | rfl))
    | ((first | apply g_T | apply g_F | apply g_gT | apply g_gF); · intro q1_; (first | intro q2_ | have q2_ := q1_); simp only [go_sem, Nat.reduceEqDiff, Nat.reduceAdd, Nat.reduceLeDiff, q1_, q2_]; (first | done | rfl))
    | fail
    )
  refine w_block (w_loop (fun _ fr τ => fr 8 = .sc (.int .i64 1) ∧ fr 2 = .sc (.int .i64 0) ∧ τ = σ) ?_ 0 _ _ ?_)
  · rintro n fr τ ⟨h8, h2, rfl⟩
    have hd : decide ((1 : Int) < 0) = false := rfl
    (repeat' first
    | refine w_seq ?_ | refine w_rg ?_ | refine wo_nil ?_ | refine g_skU ?_ | refine g_skT ?_ | refine g_skF ?_
    | ((first | apply s_plain | apply s_void | apply s_guard | apply g_goT | apply g_goF); · simp only [go_sem, Nat.reduceEqDiff, Nat.reduceAdd, Nat.reduceLeDiff, h8, h2, hd]; (first | done | rfl))
    | ((first | apply g_T | apply g_F | apply g_gT | apply g_gF); · intro q1_; (first | intro q2_ | have q2_ := q1_); simp only [go_sem, Nat.reduceEqDiff, Nat.reduceAdd, Nat.reduceLeDiff, h8, h2, hd, q1_, q2_]; (first | done | rfl))
    | (apply w_condX; · simp only [go_sem, Nat.reduceEqDiff, Nat.reduceAdd, Nat.reduceLeDiff, h8, h2, hd]; (first | done | rfl)); (first | refine wcd_T ?_ | refine wcd_F ?_)
    | refine w_skip ?_ | refine w_exit ?_ | refine w_ret ?_
    | fail
    )
    simp only [if_true]
    exact ⟨by first | exact .inl rfl | exact .inl trivial, by first | rfl | trivial, by first | rfl | trivial⟩
  · refine ⟨?_, ?_, rfl⟩
    · simp only [go_sem, Nat.reduceEqDiff, Nat.reduceAdd, Nat.reduceLeDiff]; (first | done | rfl)
    · simp only [go_sem, Nat.reduceEqDiff, Nat.reduceAdd, Nat.reduceLeDiff]
theorem a140 (O : Has lo env) {l : List Lab} (hn : l.length ≤ 12) {o g : Nat} (q : Int) (hm : σ.m o g = some ⟨2, labs l, true, true⟩) :
    ∃ r σ', EV env 140 [.ob o g 2 0 l.length, .sc (.int .i64 0), .sc (.int .i64 l.length), .sc (.int .i64 q), .fn 136 [] []] σ = some (r, σ') ∧ (r = .tu [] ∧ σ'.m o g = some ⟨2, labs (sortedL l), true, true⟩) := by
  obtain ⟨r, σ1, h1, rfl, h2⟩ := a143 O (by omega) hm
  have e1 : IntKind.i64.wrap ((l.length : Int) - 0) = (l.length : Int) := by rw [IntKind.wrap_i64]; omega
  have hd : decide ((l.length : Int) ≤ 12) = true := decide_eq_true (by omega)
  refine EV_wp' (O (140, d140) (by simp [lo])) rfl ?_
  (repeat' first
    | refine w_seq ?_ | refine w_rg ?_ | refine wo_nil ?_ | refine g_skU ?_ | refine g_skT ?_ | refine g_skF ?_
    | ((first | apply s_plain | apply s_void | apply s_guard | apply g_goT | apply g_goF); · simp only [go_sem, Nat.reduceEqDiff, Nat.reduceAdd, Nat.reduceLeDiff]; (first | done | rfl))
    | ((first | apply g_T | apply g_F | apply g_gT | apply g_gF); · intro q1_; (first | intro q2_ | have q2_ := q1_); simp only [go_sem, Nat.reduceEqDiff, Nat.reduceAdd, Nat.reduceLeDiff, q1_, q2_]; (first | done | rfl))
    | fail
    )
  refine w_block (w_loop_step (w_block ?_))
  (repeat' first
    | refine w_seq ?_ | refine w_rg ?_ | refine wo_nil ?_ | refine g_skU ?_ | refine g_skT ?_ | refine g_skF ?_
    | ((first | apply s_plain | apply s_void | apply s_guard | apply g_goT | apply g_goF); · simp only [go_sem, Nat.reduceEqDiff, Nat.reduceAdd, Nat.reduceLeDiff, e1, hd, h1]; (first | done | rfl))
    | ((first | apply g_T | apply g_F | apply g_gT | apply g_gF); · intro q1_; (first | intro q2_ | have q2_ := q1_); simp only [go_sem, Nat.reduceEqDiff, Nat.reduceAdd, Nat.reduceLeDiff, e1, hd, h1, q1_, q2_]; (first | done | rfl))
    | (apply w_condX; · simp only [go_sem, Nat.reduceEqDiff, Nat.reduceAdd, Nat.reduceLeDiff, e1, hd, h1]; (first | done | rfl)); (first | refine wcd_T ?_ | refine wcd_F ?_)
    | refine w_skip ?_ | refine w_exit ?_ | refine w_ret ?_
    | fail
    )
  exact ⟨by first | exact .inr rfl | exact .inr trivial, _, rfl, rfl, h2⟩
theorem a140e (O : Has lo env) (q : Int) : EV env 140 [.em, .sc (.int .i64 0), .sc (.int .i64 0), .sc (.int .i64 q), .fn 136 [] []] σ = some (.tu [], σ) := by
  have h1 := a143e (σ := σ) O
  have e1 : IntKind.i64.wrap ((0 : Int) - 0) = 0 := by decide
  have hd : decide ((0 : Int) ≤ 12) = true := rfl
  refine EV_wp (O (140, d140) (by simp [lo])) rfl ?_
  (repeat' first
    | refine w_seq ?_ | refine w_rg ?_ | refine wo_nil ?_ | refine g_skU ?_ | refine g_skT ?_ | refine g_skF ?_
    | ((first | apply s_plain | apply s_void | apply s_guard | apply g_goT | apply g_goF); · simp only [go_sem, Nat.reduceEqDiff, Nat.reduceAdd, Nat.reduceLeDiff]; (first | done | rfl))
    | ((first | apply g_T | apply g_F | apply g_gT | apply g_gF); · intro q1_; (first | intro q2_ | have q2_ := q1_); simp only [go_sem, Nat.reduceEqDiff, Nat.reduceAdd, Nat.reduceLeDiff, q1_, q2_]; (first | done | rfl))
    | fail
    )
  refine w_block (w_loop_step (w_block ?_))
  (repeat' first
    | refine w_seq ?_ | refine w_rg ?_ | refine wo_nil ?_ | refine g_skU ?_ | refine g_skT ?_ | refine g_skF ?_
    | ((first | apply s_plain | apply s_void | apply s_guard | apply g_goT | apply g_goF); · simp only [go_sem, Nat.reduceEqDiff, Nat.reduceAdd, Nat.reduceLeDiff, e1, hd, h1]; (first | done | rfl))
    | ((first | apply g_T | apply g_F | apply g_gT | apply g_gF); · intro q1_; (first | intro q2_ | have q2_ := q1_); simp only [go_sem, Nat.reduceEqDiff, Nat.reduceAdd, Nat.reduceLeDiff, e1, hd, h1, q1_, q2_]; (first | done | rfl))
    | (apply w_condX; · simp only [go_sem, Nat.reduceEqDiff, Nat.reduceAdd, Nat.reduceLeDiff, e1, hd, h1]; (first | done | rfl)); (first | refine wcd_T ?_ | refine wcd_F ?_)
    | refine w_skip ?_ | refine w_exit ?_ | refine w_ret ?_
    | fail
    )
  exact ⟨by first | exact .inr rfl | exact .inr trivial, by first | rfl | trivial, by first | rfl | trivial⟩
theorem wrap_u64 {n : Nat} (h : n ≤ 1000000) : IntKind.u64.wrap (n : Int) = (n : Int) := by
  unfold IntKind.wrap
  simp [IntKind.min, IntKind.max, IntKind.signed, IntKind.bits]
  omega
theorem a135 (O : Has lo env) {l : List Lab} (hn : l.length ≤ 12) {o g : Nat} {q : Int} (hq : AV env 141 [.sc (.int .u64 l.length)] = some (.sc (.int .i64 q))) (hm : σ.m o g = some ⟨2, labs l, true, true⟩) :
    ∃ r σ', EV env 135 [.ob o g 2 0 l.length, .fn 136 [] []] σ = some (r, σ') ∧ (r = .tu [] ∧ σ'.m o g = some ⟨2, labs (sortedL l), true, true⟩) := by
  obtain ⟨r, σ1, h1, rfl, h2⟩ := a140 O hn q hm
  have e1 := wrap_u64 (n := l.length) (by omega)
  refine EV_wp' (O (135, d135) (by simp [lo])) rfl ?_
  (repeat' first
    | refine w_seq ?_ | refine w_rg ?_ | refine wo_nil ?_ | refine g_skU ?_ | refine g_skT ?_ | refine g_skF ?_
    | ((first | apply s_plain | apply s_void | apply s_guard | apply g_goT | apply g_goF); · simp only [go_sem, Nat.reduceEqDiff, Nat.reduceAdd, Nat.reduceLeDiff, e1, hq, h1]; (first | done | rfl))
    | ((first | apply g_T | apply g_F | apply g_gT | apply g_gF); · intro q1_; (first | intro q2_ | have q2_ := q1_); simp only [go_sem, Nat.reduceEqDiff, Nat.reduceAdd, Nat.reduceLeDiff, e1, hq, h1, q1_, q2_]; (first | done | rfl))
    | (apply w_condX; · simp only [go_sem, Nat.reduceEqDiff, Nat.reduceAdd, Nat.reduceLeDiff, e1, hq, h1]; (first | done | rfl)); (first | refine wcd_T ?_ | refine wcd_F ?_)
    | refine w_skip ?_ | refine w_exit ?_ | refine w_ret ?_
    | fail
    )
  exact ⟨by first | exact .inl rfl | exact .inl trivial, _, rfl, rfl, h2⟩
theorem a135e (O : Has lo env) {q : Int} (hq : AV env 141 [.sc (.int .u64 0)] = some (.sc (.int .i64 q))) : EV env 135 [.em, .fn 136 [] []] σ = some (.tu [], σ) := by
  have h1 := a140e (σ := σ) O q
  have e1 : IntKind.u64.wrap 0 = 0 := by decide
  refine EV_wp (O (135, d135) (by simp [lo])) rfl ?_
  (repeat' first
    | refine w_seq ?_ | refine w_rg ?_ | refine wo_nil ?_ | refine g_skU ?_ | refine g_skT ?_ | refine g_skF ?_
    | ((first | apply s_plain | apply s_void | apply s_guard | apply g_goT | apply g_goF); · simp only [go_sem, Nat.reduceEqDiff, Nat.reduceAdd, Nat.reduceLeDiff, e1, hq, h1]; (first | done | rfl))
    | ((first | apply g_T | apply g_F | apply g_gT | apply g_gF); · intro q1_; (first | intro q2_ | have q2_ := q1_); simp only [go_sem, Nat.reduceEqDiff, Nat.reduceAdd, Nat.reduceLeDiff, e1, hq, h1, q1_, q2_]; (first | done | rfl))
    | (apply w_condX; · simp only [go_sem, Nat.reduceEqDiff, Nat.reduceAdd, Nat.reduceLeDiff, e1, hq, h1]; (first | done | rfl)); (first | refine wcd_T ?_ | refine wcd_F ?_)
    | refine w_skip ?_ | refine w_exit ?_ | refine w_ret ?_
    | fail
    )
  exact ⟨by first | exact .inl rfl | exact .inl trivial, by first | rfl | trivial, by first | rfl | trivial⟩
end

def d134 : Def := (.code 1 [.tmp 2] (.seq (.rg false [⟨.some 2, .none, .mv (.c (.slice .none 0 0))⟩]) (.seq (.rg false [⟨.some 3, .none, .mv (.c (.slice .none 0 0))⟩]) (.seq (.seq (.rg false [⟨.some 6, .none, .mv (.t 0)⟩, ⟨.some 7, .none, .lenL (.t 6)⟩, ⟨.some 8, .none, .mv (.c (.int .i64 0))⟩]) (.block 0 (.loop (.seq (.rg false [⟨.some 9, .none, .bin .lss (.t 8) (.t 7)⟩]) (.seq (.cond (.t 9) .skip (.exit 0)) (.seq (.block 1 (.seq (.rg false [⟨.some 10, .none, .ia 2 (.t 6) (.t 8)⟩, ⟨.some 11, .none, .ld (.some 2) (.t 10)⟩, ⟨.some 5, .none, .box (.c (.agg #[.string ⟨#[]⟩, .string ⟨#[]⟩]))⟩, ⟨.none, .none, .st 2 (.t 5) (.t 11)⟩]) (.rg false [⟨.some 12, .none, .mv (.t 3)⟩, ⟨.some 13, .none, .ld (.some 2) (.t 5)⟩, ⟨.some 14, .none, .bsl 2 (.agg #[.string ⟨#[]⟩, .string ⟨#[]⟩]) 1 [(0, .t 13)]⟩, ⟨.some 15, .none, .app 2 32 true (.t 12) (.t 14)⟩, ⟨.some 3, .none, .mv (.t 15)⟩]))) (.rg false [⟨.some 16, .none, .bin .add (.t 8) (.c (.int .i64 1))⟩, ⟨.some 8, .none, .mv (.t 16)⟩]))))))) (.seq (.rg false [⟨.some 17, .none, .mv (.t 3)⟩, ⟨.some 2, .none, .mv (.t 17)⟩]) .ret)))))
def d137 : Def := (.code 1 [.tmp 2] (.seq (.rg false [⟨.some 2, .none, .mv (.c (.slice .none 0 0))⟩]) (.seq (.rg false [⟨.some 3, .none, .mv (.c (.slice .none 0 0))⟩]) (.seq (.seq (.rg false [⟨.some 6, .none, .mv (.t 0)⟩, ⟨.some 7, .none, .lenL (.t 6)⟩, ⟨.some 8, .none, .mv (.c (.int .i64 0))⟩]) (.block 0 (.loop (.seq (.rg false [⟨.some 9, .none, .bin .lss (.t 8) (.t 7)⟩]) (.seq (.cond (.t 9) .skip (.exit 0)) (.seq (.block 1 (.seq (.rg false [⟨.some 10, .none, .ia 2 (.t 6) (.t 8)⟩, ⟨.some 11, .none, .ld (.some 2) (.t 10)⟩, ⟨.some 5, .none, .box (.c (.agg #[.string ⟨#[]⟩, .string ⟨#[]⟩]))⟩, ⟨.none, .none, .st 2 (.t 5) (.t 11)⟩]) (.rg false [⟨.some 12, .none, .mv (.t 3)⟩, ⟨.some 13, .none, .ld (.some 2) (.t 5)⟩, ⟨.some 14, .none, .bsl 2 (.agg #[.string ⟨#[]⟩, .string ⟨#[]⟩]) 1 [(0, .t 13)]⟩, ⟨.some 15, .none, .app 2 32 false (.t 12) (.t 14)⟩, ⟨.some 3, .none, .mv (.t 15)⟩]))) (.rg false [⟨.some 16, .none, .bin .add (.t 8) (.c (.int .i64 1))⟩, ⟨.some 8, .none, .mv (.t 16)⟩]))))))) (.seq (.rg false [⟨.some 17, .none, .mv (.t 3)⟩, ⟨.some 2, .none, .mv (.t 17)⟩]) .ret)))))
def d132 : Def := (.code 2 [.tmp 4] (.seq (.rg false [⟨.some 4, .none, .mv (.c (.bool false))⟩]) (.seq (.rg false [⟨.some 5, .none, .mv (.t 0)⟩, ⟨.some 6, .none, .mv (.t 1)⟩, ⟨.some 7, .none, .call 121 .pure [.t 5, .t 6]⟩, ⟨.some 8, .none, .bin .geq (.t 7) (.c (.int .i64 0))⟩, ⟨.some 4, .none, .mv (.t 8)⟩]) .ret)))
def d133 : Def := (.code 1 [.tmp 2] (.seq (.rg false [⟨.some 1, .none, .box (.t 0)⟩, ⟨.some 2, .none, .mv (.c (.bool false))⟩]) (.seq (.rg false [⟨.some 3, .none, .ld (.some 2) (.t 1)⟩, ⟨.some 4, .none, .call 120 .pure [.t 3]⟩, ⟨.some 5, .none, .un .not (.t 4)⟩, ⟨.some 2, .none, .mv (.t 5)⟩]) .ret)))
def d129 : Def := (.code 1 [.tmp 2, .tmp 3] (.seq (.rg false [⟨.some 2, .none, .mv (.c (.slice .none 0 0))⟩, ⟨.some 3, .none, .mv (.c (.int .i64 0))⟩]) (.seq (.seq (.rg false [⟨.some 6, .none, .mv (.t 0)⟩, ⟨.some 7, .none, .lenL (.t 6)⟩, ⟨.some 8, .none, .bin .gtr (.t 7) (.c (.int .i64 8))⟩]) (.cond (.t 8) (.seq (.rg false [⟨.some 2, .none, .mv (.c (.slice .none 0 0))⟩, ⟨.some 3, .none, .mv (.c (.int .i64 2))⟩]) .ret) .skip)) (.seq (.seq (.rg false [⟨.some 9, .none, .mv (.t 0)⟩, ⟨.some 10, .none, .call 132 .pure [.t 9, .f 133]⟩]) (.cond (.t 10) (.seq (.rg false [⟨.some 2, .none, .mv (.c (.slice .none 0 0))⟩, ⟨.some 3, .none, .mv (.c (.int .i64 1))⟩]) .ret) .skip)) (.seq (.rg false [⟨.some 11, .none, .mv (.t 0)⟩, ⟨.some 12, .none, .call 134 .opn [.t 11]⟩, ⟨.some 4, .none, .mv (.t 12)⟩]) (.seq (.rg false [⟨.some 13, .none, .mv (.t 4)⟩, ⟨.some 14, .none, .call 135 .opn [.t 13, .f 136]⟩]) (.seq (.rg false [⟨.some 15, .none, .mv (.t 4)⟩, ⟨.some 16, .none, .call 137 .pure [.t 15]⟩, ⟨.some 5, .none, .mv (.t 16)⟩]) (.seq (.seq (.rg false [⟨.some 17, .none, .mv (.t 5)⟩, ⟨.some 18, .none, .call 113 .pure [.t 17]⟩, ⟨.some 19, .none, .un .not (.t 18)⟩]) (.cond (.t 19) (.seq (.rg false [⟨.some 2, .none, .mv (.c (.slice .none 0 0))⟩, ⟨.some 3, .none, .mv (.c (.int .i64 10))⟩]) .ret) .skip)) (.seq (.rg false [⟨.some 20, .none, .mv (.t 5)⟩, ⟨.some 2, .none, .mv (.t 20)⟩, ⟨.some 3, .none, .mv (.c (.int .i64 0))⟩]) .ret)))))))))
def lp : List (Nat × Def) := [(134, d134), (137, d137), (132, d132), (133, d133), (129, d129)]
section
variable {env : Nat → Option Def} {fr : Fr} {σ : St} {K : Fr → St → Prop} {Q : X → Fr → St → Prop}
theorem labs_fz (σ : St) (l : List Lab) : (labs l).mapM (fz σ 11) = some (labs l) := by
  induction l with
  | nil => rfl
  | cons m r ih =>
    show List.mapM (fz σ 11) (lab m :: labs r) = _
    rw [mapM_cons', ih]
    rfl
theorem labs_take_succ {l : List Lab} {i : Nat} (hi : i < l.length) : (labs l).take (i + 1) = (labs l).take i ++ [.agg [.sc (.string l[i].1), .sc (.string l[i].2)]] := by
  have hlen : i < (labs l).length := by rw [labs_len]; exact hi
  rw [List.take_succ_eq_append_getElem hlen]
  congr 1
  simp [labs, lab]
theorem a134 (P : Has lp env) {l : List Lab} (hn : l.length ≤ 1000000) : ∃ r σ', EV env 134 [.sl (labs l)] σ = some (r, σ') ∧ Gat σ' [15] 2 true r (labs l) := by
  refine EV_wp' (P (134, d134) (by simp [lp])) rfl ?_
  have hll := labs_len l
  (repeat' first
    | refine w_seq ?_ | refine w_rg ?_ | refine wo_nil ?_ | refine g_skU ?_ | refine g_skT ?_ | refine g_skF ?_
    | ((first | apply s_plain | apply s_void | apply s_guard | apply g_goT | apply g_goF); · simp only [go_sem, Nat.reduceEqDiff, Nat.reduceAdd, Nat.reduceLeDiff, hll]; (first | done | rfl))
    | ((first | apply g_T | apply g_F | apply g_gT | apply g_gF); · intro q1_; (first | intro q2_ | have q2_ := q1_); simp only [go_sem, Nat.reduceEqDiff, Nat.reduceAdd, Nat.reduceLeDiff, hll, q1_, q2_]; (first | done | rfl))
    | fail
    )
  refine w_block (w_range l.length (by omega) (fun i fr σ => fr 6 = .sl (labs l) ∧ Gat σ [15] 2 true (fr 3) ((labs l).take i)) (by decide) ?_ ?_ ?_ _ _ ?_ ?_ ?_)
  · rintro i fr σ v ⟨h0, h1⟩
    refine ⟨⟨?_, ?_⟩, ⟨?_, ?_⟩, ⟨?_, ?_⟩⟩ <;> simp only [go_sem, Nat.reduceEqDiff, Nat.reduceAdd, Nat.reduceLeDiff, h0, h1]
  · rintro i fr σ hi ⟨h6, hg⟩ hti htn
    have hy := labs_at (List.getElem?_eq_getElem hi)
    have e1 : (0 : Int) ≤ (i : Int) ∧ (i : Int) < (l.length : Int) := by omega
    refine w_block ?_
    simp only [lab] at hy
    (repeat' first
    | refine w_seq ?_ | refine w_rg ?_ | refine wo_nil ?_ | refine g_skU ?_ | refine g_skT ?_ | refine g_skF ?_
    | ((first | apply s_plain | apply s_void | apply s_guard | apply g_goT | apply g_goF); · simp only [go_sem, Nat.reduceEqDiff, Nat.reduceAdd, Nat.reduceLeDiff, h6, hti, e1, hll, Int.toNat_natCast, hy, List.modify_zero_cons, fillE, List.replicate_succ, List.replicate_zero, List.set_cons_zero]; (first | done | rfl))
    | ((first | apply g_T | apply g_F | apply g_gT | apply g_gF); · intro q1_; (first | intro q2_ | have q2_ := q1_); simp only [go_sem, Nat.reduceEqDiff, Nat.reduceAdd, Nat.reduceLeDiff, h6, hti, e1, hll, Int.toNat_natCast, hy, List.modify_zero_cons, fillE, List.replicate_succ, List.replicate_zero, List.set_cons_zero, q1_, q2_]; (first | done | rfl))
    | fail
    )
    have hlen : ((labs l).take i).length ≤ 1000000 := by rw [List.length_take]; omega
    refine s_gat (os := [15]) (w := true) (xs := (labs l).take i) (e := .agg [.sc (.string l[i].1), .sc (.string l[i].2)]) (by simp only [go_sem, Nat.reduceEqDiff, Nat.reduceAdd, Nat.reduceLeDiff]; exact ((hg.new _).put (d := 2000005) (by decide) _).new _) (by decide) (by simp only [go_sem, Nat.reduceEqDiff, Nat.reduceAdd, Nat.reduceLeDiff, srcOf, elemsOf]) rfl rfl (by omega) ?_
    intro p σ' hg2
    rw [← labs_take_succ hi] at hg2
    (repeat' first
    | refine w_seq ?_ | refine w_rg ?_ | refine wo_nil ?_ | refine g_skU ?_ | refine g_skT ?_ | refine g_skF ?_
    | ((first | apply s_plain | apply s_void | apply s_guard | apply g_goT | apply g_goF); · simp only [go_sem, Nat.reduceEqDiff, Nat.reduceAdd, Nat.reduceLeDiff]; (first | done | rfl))
    | ((first | apply g_T | apply g_F | apply g_gT | apply g_gF); · intro q1_; (first | intro q2_ | have q2_ := q1_); simp only [go_sem, Nat.reduceEqDiff, Nat.reduceAdd, Nat.reduceLeDiff, q1_, q2_]; (first | done | rfl))
    | fail
    )
    refine ⟨⟨?_, ?_⟩, ?_, ?_⟩
    · simp only [go_sem, Nat.reduceEqDiff, Nat.reduceAdd, Nat.reduceLeDiff, h6]
    · simp only [go_sem, Nat.reduceEqDiff, Nat.reduceAdd, Nat.reduceLeDiff]; exact hg2
    · simp only [go_sem, Nat.reduceEqDiff, Nat.reduceAdd, Nat.reduceLeDiff, hti]
    · simp only [go_sem, Nat.reduceEqDiff, Nat.reduceAdd, Nat.reduceLeDiff, htn]
  · rintro fr σ ⟨h6, hg⟩
    simp only [if_true]
    rw [List.take_of_length_le (by rw [hll]; exact Nat.le_refl _)] at hg
    (repeat' first
    | refine w_seq ?_ | refine w_rg ?_ | refine wo_nil ?_ | refine g_skU ?_ | refine g_skT ?_ | refine g_skF ?_
    | ((first | apply s_plain | apply s_void | apply s_guard | apply g_goT | apply g_goF); · simp only [go_sem, Nat.reduceEqDiff, Nat.reduceAdd, Nat.reduceLeDiff]; (first | done | rfl))
    | ((first | apply g_T | apply g_F | apply g_gT | apply g_gF); · intro q1_; (first | intro q2_ | have q2_ := q1_); simp only [go_sem, Nat.reduceEqDiff, Nat.reduceAdd, Nat.reduceLeDiff, q1_, q2_]; (first | done | rfl))
    | (apply w_condX; · simp only [go_sem, Nat.reduceEqDiff, Nat.reduceAdd, Nat.reduceLeDiff]; (first | done | rfl)); (first | refine wcd_T ?_ | refine wcd_F ?_)
    | refine w_skip ?_ | refine w_exit ?_ | refine w_ret ?_
    | fail
    )
    exact ⟨.inr rfl, fr 3, by simp only [go_sem, Nat.reduceEqDiff, Nat.reduceAdd, Nat.reduceLeDiff, retOf, resOf], hg⟩
  · exact ⟨by simp only [go_sem, Nat.reduceEqDiff, Nat.reduceAdd, Nat.reduceLeDiff], by simp only [go_sem, Nat.reduceEqDiff, Nat.reduceAdd, Nat.reduceLeDiff]; exact .em⟩
  · simp only [go_sem, Nat.reduceEqDiff, Nat.reduceAdd, Nat.reduceLeDiff]
  · simp only [go_sem, Nat.reduceEqDiff, Nat.reduceAdd, Nat.reduceLeDiff, hll]
theorem a137 (P : Has lp env) {l : List Lab} (hn : l.length ≤ 1000000) : AV env 137 [.sl (labs l)] = some (.sl (labs l)) := by
  refine AV_wp (P (137, d137) (by simp [lp])) rfl ?_
  have hll := labs_len l
  (repeat' first
    | refine w_seq ?_ | refine w_rg ?_ | refine wo_nil ?_ | refine g_skU ?_ | refine g_skT ?_ | refine g_skF ?_
    | ((first | apply s_plain | apply s_void | apply s_guard | apply g_goT | apply g_goF); · simp only [go_sem, Nat.reduceEqDiff, Nat.reduceAdd, Nat.reduceLeDiff, hll]; (first | done | rfl))
    | ((first | apply g_T | apply g_F | apply g_gT | apply g_gF); · intro q1_; (first | intro q2_ | have q2_ := q1_); simp only [go_sem, Nat.reduceEqDiff, Nat.reduceAdd, Nat.reduceLeDiff, hll, q1_, q2_]; (first | done | rfl))
    | fail
    )
  refine w_block (w_range l.length (by omega) (fun i fr σ => fr 6 = .sl (labs l) ∧ Gat σ [15] 2 false (fr 3) ((labs l).take i)) (by decide) ?_ ?_ ?_ _ _ ?_ ?_ ?_)
  · rintro i fr σ v ⟨h0, h1⟩
    refine ⟨⟨?_, ?_⟩, ⟨?_, ?_⟩, ⟨?_, ?_⟩⟩ <;> simp only [go_sem, Nat.reduceEqDiff, Nat.reduceAdd, Nat.reduceLeDiff, h0, h1]
  · rintro i fr σ hi ⟨h6, hg⟩ hti htn
    have hy := labs_at (List.getElem?_eq_getElem hi)
    have e1 : (0 : Int) ≤ (i : Int) ∧ (i : Int) < (l.length : Int) := by omega
    refine w_block ?_
    simp only [lab] at hy
    (repeat' first
    | refine w_seq ?_ | refine w_rg ?_ | refine wo_nil ?_ | refine g_skU ?_ | refine g_skT ?_ | refine g_skF ?_
    | ((first | apply s_plain | apply s_void | apply s_guard | apply g_goT | apply g_goF); · simp only [go_sem, Nat.reduceEqDiff, Nat.reduceAdd, Nat.reduceLeDiff, h6, hti, e1, hll, Int.toNat_natCast, hy, List.modify_zero_cons, fillE, List.replicate_succ, List.replicate_zero, List.set_cons_zero]; (first | done | rfl))
    | ((first | apply g_T | apply g_F | apply g_gT | apply g_gF); · intro q1_; (first | intro q2_ | have q2_ := q1_); simp only [go_sem, Nat.reduceEqDiff, Nat.reduceAdd, Nat.reduceLeDiff, h6, hti, e1, hll, Int.toNat_natCast, hy, List.modify_zero_cons, fillE, List.replicate_succ, List.replicate_zero, List.set_cons_zero, q1_, q2_]; (first | done | rfl))
    | fail
    )
    have hlen : ((labs l).take i).length ≤ 1000000 := by rw [List.length_take]; omega
    refine s_gat (os := [15]) (w := false) (xs := (labs l).take i) (e := .agg [.sc (.string l[i].1), .sc (.string l[i].2)]) (by simp only [go_sem, Nat.reduceEqDiff, Nat.reduceAdd, Nat.reduceLeDiff]; exact ((hg.new _).put (d := 2000005) (by decide) _).new _) (by decide) (by simp only [go_sem, Nat.reduceEqDiff, Nat.reduceAdd, Nat.reduceLeDiff, srcOf, elemsOf]) rfl rfl (by omega) ?_
    intro p σ' hg2
    rw [← labs_take_succ hi] at hg2
    (repeat' first
    | refine w_seq ?_ | refine w_rg ?_ | refine wo_nil ?_ | refine g_skU ?_ | refine g_skT ?_ | refine g_skF ?_
    | ((first | apply s_plain | apply s_void | apply s_guard | apply g_goT | apply g_goF); · simp only [go_sem, Nat.reduceEqDiff, Nat.reduceAdd, Nat.reduceLeDiff]; (first | done | rfl))
    | ((first | apply g_T | apply g_F | apply g_gT | apply g_gF); · intro q1_; (first | intro q2_ | have q2_ := q1_); simp only [go_sem, Nat.reduceEqDiff, Nat.reduceAdd, Nat.reduceLeDiff, q1_, q2_]; (first | done | rfl))
    | fail
    )
    refine ⟨⟨?_, ?_⟩, ?_, ?_⟩
    · simp only [go_sem, Nat.reduceEqDiff, Nat.reduceAdd, Nat.reduceLeDiff, h6]
    · simp only [go_sem, Nat.reduceEqDiff, Nat.reduceAdd, Nat.reduceLeDiff]; exact hg2
    · simp only [go_sem, Nat.reduceEqDiff, Nat.reduceAdd, Nat.reduceLeDiff, hti]
    · simp only [go_sem, Nat.reduceEqDiff, Nat.reduceAdd, Nat.reduceLeDiff, htn]
  · rintro fr σ ⟨h6, hg⟩
    simp only [if_true]
    rw [List.take_of_length_le (by rw [hll]; exact Nat.le_refl _)] at hg
    have hfz := hg.fz (labs_fz σ l)
    (repeat' first
    | refine w_seq ?_ | refine w_rg ?_ | refine wo_nil ?_ | refine g_skU ?_ | refine g_skT ?_ | refine g_skF ?_
    | ((first | apply s_plain | apply s_void | apply s_guard | apply g_goT | apply g_goF); · simp only [go_sem, Nat.reduceEqDiff, Nat.reduceAdd, Nat.reduceLeDiff]; (first | done | rfl))
    | ((first | apply g_T | apply g_F | apply g_gT | apply g_gF); · intro q1_; (first | intro q2_ | have q2_ := q1_); simp only [go_sem, Nat.reduceEqDiff, Nat.reduceAdd, Nat.reduceLeDiff, q1_, q2_]; (first | done | rfl))
    | (apply w_condX; · simp only [go_sem, Nat.reduceEqDiff, Nat.reduceAdd, Nat.reduceLeDiff]; (first | done | rfl)); (first | refine wcd_T ?_ | refine wcd_F ?_)
    | refine w_skip ?_ | refine w_exit ?_ | refine w_ret ?_
    | fail
    )
    exact ⟨.inr rfl, by simp only [go_sem, Nat.reduceEqDiff, Nat.reduceAdd, Nat.reduceLeDiff, retOf, resOf, hfz]⟩
  · exact ⟨by simp only [go_sem, Nat.reduceEqDiff, Nat.reduceAdd, Nat.reduceLeDiff], by simp only [go_sem, Nat.reduceEqDiff, Nat.reduceAdd, Nat.reduceLeDiff]; exact .em⟩
  · simp only [go_sem, Nat.reduceEqDiff, Nat.reduceAdd, Nat.reduceLeDiff]
  · simp only [go_sem, Nat.reduceEqDiff, Nat.reduceAdd, Nat.reduceLeDiff, hll]
theorem a133 (H : Has la0 env) (G : Has lc env) (P : Has lp env) {m : Lab} (h1 : Small m.1) (h2 : Small m.2) : AV env 133 [lab m] = some (.sc (.bool (!mayB m))) := by
  have h := a120 H G h1 h2
  refine AV_wp (P (133, d133) (by simp [lp])) rfl ?_
  unfold lab at h ⊢
  (repeat' first
    | refine w_seq ?_ | refine w_rg ?_ | refine wo_nil ?_ | refine g_skU ?_ | refine g_skT ?_ | refine g_skF ?_
    | ((first | apply s_plain | apply s_void | apply s_guard | apply g_goT | apply g_goF); · simp only [go_sem, Nat.reduceEqDiff, Nat.reduceAdd, Nat.reduceLeDiff, h, List.drop_zero]; (first | done | rfl))
    | ((first | apply g_T | apply g_F | apply g_gT | apply g_gF); · intro q1_; (first | intro q2_ | have q2_ := q1_); simp only [go_sem, Nat.reduceEqDiff, Nat.reduceAdd, Nat.reduceLeDiff, h, List.drop_zero, q1_, q2_]; (first | done | rfl))
    | (apply w_condX; · simp only [go_sem, Nat.reduceEqDiff, Nat.reduceAdd, Nat.reduceLeDiff, h, List.drop_zero]; (first | done | rfl)); (first | refine wcd_T ?_ | refine wcd_F ?_)
    | refine w_skip ?_ | refine w_exit ?_ | refine w_ret ?_
    | fail
    )
  exact ⟨.inr rfl, by simp only [go_sem, Nat.reduceEqDiff, Nat.reduceAdd, Nat.reduceLeDiff, retOf, resOf]⟩
def wrongB (l : List Lab) : Bool := decide (found (fun i => !mayB (nth l i)) l.length ≥ 0)
theorem a132 (H : Has la0 env) (G : Has lc env) (P : Has lp env) {l : List Lab} (hn : l.length ≤ 9223372036854775807) (hl : Smalls l) : AV env 132 [.sl (labs l), .fn 133 [] []] = some (.sc (.bool (wrongB l))) := by
  have h := a121 G (l := l) (k := 133) (a := []) (b := []) (p := fun i => !mayB (nth l i)) hn (fun m σ => rfl) (fun i m hm => by
    have e : nth l i = m := by unfold nth; rw [hm]; rfl
    rw [e]
    exact a133 H G P (hl m (List.mem_of_getElem? hm)).1 (hl m (List.mem_of_getElem? hm)).2)
  refine AV_wp (P (132, d132) (by simp [lp])) rfl ?_
  (repeat' first
    | refine w_seq ?_ | refine w_rg ?_ | refine wo_nil ?_ | refine g_skU ?_ | refine g_skT ?_ | refine g_skF ?_
    | ((first | apply s_plain | apply s_void | apply s_guard | apply g_goT | apply g_goF); · simp only [go_sem, Nat.reduceEqDiff, Nat.reduceAdd, Nat.reduceLeDiff, h]; (first | done | rfl))
    | ((first | apply g_T | apply g_F | apply g_gT | apply g_gF); · intro q1_; (first | intro q2_ | have q2_ := q1_); simp only [go_sem, Nat.reduceEqDiff, Nat.reduceAdd, Nat.reduceLeDiff, h, q1_, q2_]; (first | done | rfl))
    | (apply w_condX; · simp only [go_sem, Nat.reduceEqDiff, Nat.reduceAdd, Nat.reduceLeDiff, h]; (first | done | rfl)); (first | refine wcd_T ?_ | refine wcd_F ?_)
    | refine w_skip ?_ | refine w_exit ?_ | refine w_ret ?_
    | fail
    )
  exact ⟨.inr rfl, by simp only [go_sem, Nat.reduceEqDiff, Nat.reduceAdd, Nat.reduceLeDiff, retOf, resOf]; rfl⟩
theorem mem_insAt {m x : Lab} {a : List Lab} : ∀ {k : Nat}, x ∈ insAt m a k → x = m ∨ x ∈ a
  | 0, h => by simpa [insAt] using h
  | k + 1, h => by
    simp only [insAt] at h
    split at h
    · exact mem_insAt h
    · simp only [List.mem_append, List.mem_cons] at h
      rcases h with h | h | h
      · exact .inr (List.mem_of_mem_take h)
      · exact .inl h
      · exact .inr (List.mem_of_mem_drop h)
theorem mem_foldl {x : Lab} : ∀ {l a : List Lab}, x ∈ l.foldl insR a → x ∈ a ∨ x ∈ l
  | [], a, h => .inl h
  | m :: l, a, h => by
    rcases mem_foldl (l := l) h with h | h
    · rcases mem_insAt h with rfl | h
      · exact .inr (by simp)
      · exact .inl h
    · exact .inr (by simp [h])
theorem mem_sorted {x : Lab} {l : List Lab} (h : x ∈ sortedL l) : x ∈ l := by
  rcases mem_foldl h with h | h
  · simp at h
  · exact h
theorem sorted_smalls {l : List Lab} (h : Smalls l) : Smalls (sortedL l) := fun m hm => h m (mem_sorted hm)
def newL (l : List Lab) : List Lab × Int := if (l.length : Int) > 8 then ([], 2) else if wrongB l then ([], 1) else if rightL (sortedL l) then (sortedL l, 0) else ([], 10)
def Bits (env : Nat → Option Def) : Prop := ∀ n : Nat, n ≤ 12 → ∃ q : Int, AV env 141 [.sc (.int .u64 n)] = some (.sc (.int .i64 q))
theorem a129 (H : Has la0 env) (G : Has lc env) (O : Has lo env) (P : Has lp env) (B : Bits env) {l : List Lab} (hn : l.length ≤ 9223372036854775807) (hl : Smalls l) :
    AV env 129 [.sl (labs l)] = some (.tu [.sl (labs (newL l).1), .sc (.int .i64 (newL l).2)]) := by
  have hll := labs_len l
  have h132 := a132 H G P hn hl
  refine AV_wp (P (129, d129) (by simp [lp])) rfl ?_
  (repeat' first
    | refine w_seq ?_ | refine w_rg ?_ | refine wo_nil ?_ | refine g_skU ?_ | refine g_skT ?_ | refine g_skF ?_
    | ((first | apply s_plain | apply s_void | apply s_guard | apply g_goT | apply g_goF); · simp only [go_sem, Nat.reduceEqDiff, Nat.reduceAdd, Nat.reduceLeDiff, hll]; (first | done | rfl))
    | ((first | apply g_T | apply g_F | apply g_gT | apply g_gF); · intro q1_; (first | intro q2_ | have q2_ := q1_); simp only [go_sem, Nat.reduceEqDiff, Nat.reduceAdd, Nat.reduceLeDiff, hll, q1_, q2_]; (first | done | rfl))
    | fail
    )
  by_cases h8 : (l.length : Int) > 8
  · have hd : decide ((l.length : Int) > 8) = true := decide_eq_true h8
    (repeat' first
    | refine w_seq ?_ | refine w_rg ?_ | refine wo_nil ?_ | refine g_skU ?_ | refine g_skT ?_ | refine g_skF ?_
    | ((first | apply s_plain | apply s_void | apply s_guard | apply g_goT | apply g_goF); · simp only [go_sem, Nat.reduceEqDiff, Nat.reduceAdd, Nat.reduceLeDiff, hd]; (first | done | rfl))
    | ((first | apply g_T | apply g_F | apply g_gT | apply g_gF); · intro q1_; (first | intro q2_ | have q2_ := q1_); simp only [go_sem, Nat.reduceEqDiff, Nat.reduceAdd, Nat.reduceLeDiff, hd, q1_, q2_]; (first | done | rfl))
    | (apply w_condX; · simp only [go_sem, Nat.reduceEqDiff, Nat.reduceAdd, Nat.reduceLeDiff, hd]; (first | done | rfl)); (first | refine wcd_T ?_ | refine wcd_F ?_)
    | refine w_skip ?_ | refine w_exit ?_ | refine w_ret ?_
    | fail
    )
    exact ⟨.inr rfl, by simp only [go_sem, Nat.reduceEqDiff, Nat.reduceAdd, Nat.reduceLeDiff, retOf, resOf]; simp only [newL, if_pos h8]; rfl⟩
  · have hd : decide ((l.length : Int) > 8) = false := decide_eq_false h8
    (repeat' first
    | refine w_seq ?_ | refine w_rg ?_ | refine wo_nil ?_ | refine g_skU ?_ | refine g_skT ?_ | refine g_skF ?_
    | ((first | apply s_plain | apply s_void | apply s_guard | apply g_goT | apply g_goF); · simp only [go_sem, Nat.reduceEqDiff, Nat.reduceAdd, Nat.reduceLeDiff, hd]; (first | done | rfl))
    | ((first | apply g_T | apply g_F | apply g_gT | apply g_gF); · intro q1_; (first | intro q2_ | have q2_ := q1_); simp only [go_sem, Nat.reduceEqDiff, Nat.reduceAdd, Nat.reduceLeDiff, hd, q1_, q2_]; (first | done | rfl))
    | (apply w_condX; · simp only [go_sem, Nat.reduceEqDiff, Nat.reduceAdd, Nat.reduceLeDiff, hd]; (first | done | rfl)); (first | refine wcd_T ?_ | refine wcd_F ?_)
    | refine w_skip ?_ | refine w_exit ?_ | refine w_ret ?_
    | fail
    )
    (repeat' first
    | refine w_seq ?_ | refine w_rg ?_ | refine wo_nil ?_ | refine g_skU ?_ | refine g_skT ?_ | refine g_skF ?_
    | ((first | apply s_plain | apply s_void | apply s_guard | apply g_goT | apply g_goF); · simp only [go_sem, Nat.reduceEqDiff, Nat.reduceAdd, Nat.reduceLeDiff, h132]; (first | done | rfl))
    | ((first | apply g_T | apply g_F | apply g_gT | apply g_gF); · intro q1_; (first | intro q2_ | have q2_ := q1_); simp only [go_sem, Nat.reduceEqDiff, Nat.reduceAdd, Nat.reduceLeDiff, h132, q1_, q2_]; (first | done | rfl))
    | fail
    )
    cases hw : wrongB l with
    | true =>
      (repeat' first
    | refine w_seq ?_ | refine w_rg ?_ | refine wo_nil ?_ | refine g_skU ?_ | refine g_skT ?_ | refine g_skF ?_
    | ((first | apply s_plain | apply s_void | apply s_guard | apply g_goT | apply g_goF); · simp only [go_sem, Nat.reduceEqDiff, Nat.reduceAdd, Nat.reduceLeDiff]; (first | done | rfl))
    | ((first | apply g_T | apply g_F | apply g_gT | apply g_gF); · intro q1_; (first | intro q2_ | have q2_ := q1_); simp only [go_sem, Nat.reduceEqDiff, Nat.reduceAdd, Nat.reduceLeDiff, q1_, q2_]; (first | done | rfl))
    | (apply w_condX; · simp only [go_sem, Nat.reduceEqDiff, Nat.reduceAdd, Nat.reduceLeDiff]; (first | done | rfl)); (first | refine wcd_T ?_ | refine wcd_F ?_)
    | refine w_skip ?_ | refine w_exit ?_ | refine w_ret ?_
    | fail
    )
      exact ⟨.inr rfl, by simp only [go_sem, Nat.reduceEqDiff, Nat.reduceAdd, Nat.reduceLeDiff, retOf, resOf]; simp only [newL, if_neg h8, hw, if_true]; rfl⟩
    | false =>
      obtain ⟨q, hq⟩ := B l.length (by omega)
      obtain ⟨r, σ1, h134, hg⟩ := a134 (σ := St.nil) P (l := l) (by omega)
      have h137 := a137 P (l := sortedL l) (by rw [sortedL_len]; omega)
      have h113 := a113 H G (l := sortedL l) (by rw [sortedL_len]; exact hn) (sorted_smalls hl)
      rcases hg with ⟨rfl, hnil⟩ | ⟨o, g, wr, ho, rfl, hm, _, hnz, hw'⟩
      · have hl0 : l = [] := by
          cases l with
          | nil => rfl
          | cons x r => simp [labs] at hnil
        subst hl0
        have h135 := a135e (σ := σ1) O hq
        have h137' : AV env 137 [.sl []] = some (.sl []) := h137
        have hr0 : rightL [] = true := by decide
        have h113' : AV env 113 [.sl []] = some (.sc (.bool true)) := by rw [← hr0]; exact h113
        (repeat' first
    | refine w_seq ?_ | refine w_rg ?_ | refine wo_nil ?_ | refine g_skU ?_ | refine g_skT ?_ | refine g_skF ?_
    | ((first | apply s_plain | apply s_void | apply s_guard | apply g_goT | apply g_goF); · simp only [go_sem, Nat.reduceEqDiff, Nat.reduceAdd, Nat.reduceLeDiff, h134, h135, h137', h113']; (first | done | rfl))
    | ((first | apply g_T | apply g_F | apply g_gT | apply g_gF); · intro q1_; (first | intro q2_ | have q2_ := q1_); simp only [go_sem, Nat.reduceEqDiff, Nat.reduceAdd, Nat.reduceLeDiff, h134, h135, h137', h113', q1_, q2_]; (first | done | rfl))
    | (apply w_condX; · simp only [go_sem, Nat.reduceEqDiff, Nat.reduceAdd, Nat.reduceLeDiff, h134, h135, h137', h113']; (first | done | rfl)); (first | refine wcd_T ?_ | refine wcd_F ?_)
    | refine w_skip ?_ | refine w_exit ?_ | refine w_ret ?_
    | fail
    )
        have hnew : newL [] = ([], 0) := by
          have hw0 : wrongB [] = false := by decide
          simp only [newL, hw0]
          rfl
        exact ⟨.inr rfl, by simp only [go_sem, Nat.reduceEqDiff, Nat.reduceAdd, Nat.reduceLeDiff, retOf, resOf, hnew]; rfl⟩
      · rw [hll] at h134
        have hne : (labs (sortedL l)).isEmpty = false := by
          cases hx : labs (sortedL l) with
          | nil =>
            have := congrArg List.length hx
            rw [labs_len, sortedL_len] at this
            simp at this
            rw [this] at hnz
            exact absurd rfl hnz
          | cons x r => rfl
        have hwr : wr = true := hw' rfl
        subst hwr
        obtain ⟨r2, σ2, h135, rfl, hm2⟩ := a135 (σ := σ1) O (l := l) (by omega) hq hm
        have hz : (labs (sortedL l)).mapM (fz σ2 11) = some (labs (sortedL l)) := labs_fz σ2 _
        have hsl : (labs (sortedL l)).length = l.length := by rw [labs_len, sortedL_len]
        have htk : ((labs (sortedL l)).take l.length) = labs (sortedL l) := List.take_of_length_le (by omega)
        (repeat' first
    | refine w_seq ?_ | refine w_rg ?_ | refine wo_nil ?_ | refine g_skU ?_ | refine g_skT ?_ | refine g_skF ?_
    | ((first | apply s_plain | apply s_void | apply s_guard | apply g_goT | apply g_goF); · simp only [go_sem, Nat.reduceEqDiff, Nat.reduceAdd, Nat.reduceLeDiff, h134, h135, h137, h113, hm2, hsl, htk, hz, List.drop_zero, Nat.le_refl, hne]; (first | done | rfl))
    | ((first | apply g_T | apply g_F | apply g_gT | apply g_gF); · intro q1_; (first | intro q2_ | have q2_ := q1_); simp only [go_sem, Nat.reduceEqDiff, Nat.reduceAdd, Nat.reduceLeDiff, h134, h135, h137, h113, hm2, hsl, htk, hz, List.drop_zero, Nat.le_refl, hne, q1_, q2_]; (first | done | rfl))
    | (apply w_condX; · simp only [go_sem, Nat.reduceEqDiff, Nat.reduceAdd, Nat.reduceLeDiff, h134, h135, h137, h113, hm2, hsl, htk, hz, List.drop_zero, Nat.le_refl, hne]; (first | done | rfl)); (first | refine wcd_T ?_ | refine wcd_F ?_)
    | refine w_skip ?_ | refine w_exit ?_ | refine w_ret ?_
    | fail
    )
        cases hr : rightL (sortedL l) with
        | false =>
          (repeat' first
    | refine w_seq ?_ | refine w_rg ?_ | refine wo_nil ?_ | refine g_skU ?_ | refine g_skT ?_ | refine g_skF ?_
    | ((first | apply s_plain | apply s_void | apply s_guard | apply g_goT | apply g_goF); · simp only [go_sem, Nat.reduceEqDiff, Nat.reduceAdd, Nat.reduceLeDiff]; (first | done | rfl))
    | ((first | apply g_T | apply g_F | apply g_gT | apply g_gF); · intro q1_; (first | intro q2_ | have q2_ := q1_); simp only [go_sem, Nat.reduceEqDiff, Nat.reduceAdd, Nat.reduceLeDiff, q1_, q2_]; (first | done | rfl))
    | (apply w_condX; · simp only [go_sem, Nat.reduceEqDiff, Nat.reduceAdd, Nat.reduceLeDiff]; (first | done | rfl)); (first | refine wcd_T ?_ | refine wcd_F ?_)
    | refine w_skip ?_ | refine w_exit ?_ | refine w_ret ?_
    | fail
    )
          exact ⟨.inr rfl, by simp only [go_sem, Nat.reduceEqDiff, Nat.reduceAdd, Nat.reduceLeDiff, retOf, resOf]; simp only [newL, if_neg h8, hw, hr]; rfl⟩
        | true =>
          (repeat' first
    | refine w_seq ?_ | refine w_rg ?_ | refine wo_nil ?_ | refine g_skU ?_ | refine g_skT ?_ | refine g_skF ?_
    | ((first | apply s_plain | apply s_void | apply s_guard | apply g_goT | apply g_goF); · simp only [go_sem, Nat.reduceEqDiff, Nat.reduceAdd, Nat.reduceLeDiff]; (first | done | rfl))
    | ((first | apply g_T | apply g_F | apply g_gT | apply g_gF); · intro q1_; (first | intro q2_ | have q2_ := q1_); simp only [go_sem, Nat.reduceEqDiff, Nat.reduceAdd, Nat.reduceLeDiff, q1_, q2_]; (first | done | rfl))
    | (apply w_condX; · simp only [go_sem, Nat.reduceEqDiff, Nat.reduceAdd, Nat.reduceLeDiff]; (first | done | rfl)); (first | refine wcd_T ?_ | refine wcd_F ?_)
    | refine w_skip ?_ | refine w_exit ?_ | refine w_ret ?_
    | fail
    )
          exact ⟨.inr rfl, by simp only [go_sem, Nat.reduceEqDiff, Nat.reduceAdd, Nat.reduceLeDiff, retOf, resOf]; simp only [newL, if_neg h8, hw, hr, if_true]; first | done | rfl⟩
end

end
end Go.Proofs.YtcpgkdaicglogaaGreatDoorPv
