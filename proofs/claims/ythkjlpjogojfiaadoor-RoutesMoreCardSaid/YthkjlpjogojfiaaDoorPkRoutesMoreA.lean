/-
Own texts of the proof, merged: part 1.
-/
import Derived.Test.YthkjlpjogojfiaaDoorPvY
import Derived.Lib.Bytealg
import Derived.Test.YthkjlpjogojfiaaDoorPvP
import Derived.Test.YthkjlpjogojfiaaDoorPvPc
import Derived.Test.YthkjlpjogojfiaaDoorPvU
import Derived.Lib.CutLaws
import Derived.Lib.IndexLaws
namespace Go.Proofs.YthkjlpjogojfiaaDoorPv
open Go
set_option linter.unusedSimpArgs false
set_option linter.unusedVariables false
set_option maxHeartbeats 4000000
set_option maxRecDepth 8000
section
attribute [local go_sem ↓] e_mv e_pick e_bin e_eqs e_beq e_un e_cvi e_str e_s2b e_b2s e_box e_build e_bsl e_ld e_st e_nck e_mkf e_slcS e_slcL e_fa e_fld e_ia e_iaa e_ix e_ixa e_ext e_lenS e_lenL e_mnmx e_app e_appb e_bbx e_msl e_clr e_call e_callv e_icall e_slcA e_mkm e_mput e_mget e_mlen e_mdel pa_t pa_c pa_f slcSP_str hiOf_some hiOf_none loOf_some loOf_none set_eq set_ne
attribute [local go_sem] pv pv1 simple frOf_0 frOf_1 frOf_2 frOf_3 frOf_4 frOf_5 ne_eq not_false_eq_true if_true Bool.false_eq_true if_false pbin punary Option.map_some Option.bind_some pick_and pick_or opt_true Bool.true_and Bool.and_self Bool.and_true Bool.true_or Bool.false_or Bool.not_true Bool.not_false callE pcall_eq List.map_cons List.map_nil List.append_nil List.nil_append List.cons_append mapM_cons' mapM_nil' dep_eq fz_sc fz_sl fz_em fz_fn fz_fp fz_agg fz_tu fz_bx fz_ob Nat.lt_irrefl Nat.zero_lt_one Nat.lt_add_one flat clL cl Bool.or_true okc_sc okc_em okc_sl okc_ob okc_bx okc_fp okc_fn okc_agg okc_ifc cells_agg cells_sc cells_sl cells_em cells_ob cells_fn cells_bx cells_fp List.length_cons List.length_nil Nat.zero_add and_self true_and and_true new_m new_c put_m put_c nil_m nil_c nil_mm new_mm put_mm newM_m newM_c newM_mm putM_m putM_c putM_mm mkeyV_1 mkeyV_2 mapAt_eq deref List.getElem?_cons_zero List.getElem?_cons_succ List.drop_zero List.drop_succ_cons List.take_succ_cons List.take_zero Nat.le_refl false_and and_false decide_true decide_false lenP_em lenP_nil lenP_sl lenP_ob Int.ofNat_zero
def d85 : Def := (.code 2 [.tmp 4] (.seq (.rg false [⟨.some 4, .none, .mv (.c (.int .i64 0))⟩]) (.seq (.seq (.rg false [⟨.some 6, .none, .mv (.t 0)⟩, ⟨.some 7, .none, .lenL (.t 6)⟩, ⟨.some 8, .none, .mv (.c (.int .i64 0))⟩]) (.block 0 (.loop (.seq (.rg false [⟨.some 9, .none, .bin .lss (.t 8) (.t 7)⟩]) (.seq (.cond (.t 9) .skip (.exit 0)) (.seq (.block 1 (.seq (.rg false [⟨.some 10, .none, .mv (.t 8)⟩, ⟨.some 5, .none, .mv (.t 10)⟩]) (.seq (.rg false [⟨.some 11, .none, .mv (.t 1)⟩, ⟨.some 12, .none, .mv (.t 0)⟩, ⟨.some 13, .none, .mv (.t 5)⟩, ⟨.some 14, .none, .ia 1 (.t 12) (.t 13)⟩, ⟨.some 15, .none, .ld .none (.t 14)⟩, ⟨.some 16, .none, .callv (.t 11) .pure [.t 15]⟩]) (.cond (.t 16) (.seq (.rg false [⟨.some 17, .none, .mv (.t 5)⟩, ⟨.some 4, .none, .mv (.t 17)⟩]) .ret) .skip)))) (.rg false [⟨.some 18, .none, .bin .add (.t 8) (.c (.int .i64 1))⟩, ⟨.some 8, .none, .mv (.t 18)⟩]))))))) (.seq (.rg false [⟨.some 4, .none, .mv (.c (.int .i64 (-1)))⟩]) .ret))))
def d67 : Def := (.code 2 [.tmp 4] (.seq (.rg false [⟨.some 4, .none, .mv (.c (.bool false))⟩]) (.seq (.rg false [⟨.some 5, .none, .mv (.t 0)⟩, ⟨.some 6, .none, .mv (.t 1)⟩, ⟨.some 7, .none, .call 85 .pure [.t 5, .t 6]⟩, ⟨.some 8, .none, .bin .geq (.t 7) (.c (.int .i64 0))⟩, ⟨.some 4, .none, .mv (.t 8)⟩]) .ret)))
def d66 : Def := (.code 1 [.tmp 2] (.seq (.rg false [⟨.some 2, .none, .mv (.c (.bool false))⟩]) (.seq (.rg false [⟨.some 3, .none, .mv (.t 0)⟩, ⟨.some 4, .none, .bin .lss (.t 3) (.c (.int .u8 97))⟩, ⟨.some 5, .none, .mv (.t 4)⟩, ⟨.some 6, .some (5, false), .mv (.t 0)⟩, ⟨.some 7, .some (5, false), .bin .gtr (.t 6) (.c (.int .u8 122))⟩, ⟨.some 8, .none, .pick (.t 5) (.c (.bool true)) (.t 7)⟩, ⟨.some 9, .none, .mv (.t 8)⟩, ⟨.some 10, .some (9, true), .mv (.t 0)⟩, ⟨.some 11, .some (9, true), .bin .lss (.t 10) (.c (.int .u8 48))⟩, ⟨.some 12, .some (9, true), .mv (.t 11)⟩, ⟨.some 13, .some (12, false), .mv (.t 0)⟩, ⟨.some 14, .some (12, false), .bin .gtr (.t 13) (.c (.int .u8 57))⟩, ⟨.some 15, .some (9, true), .pick (.t 12) (.c (.bool true)) (.t 14)⟩, ⟨.some 16, .none, .pick (.t 9) (.t 15) (.c (.bool false))⟩, ⟨.some 17, .none, .mv (.t 16)⟩, ⟨.some 18, .some (17, true), .mv (.t 0)⟩, ⟨.some 19, .some (17, true), .bin .neq (.t 18) (.c (.int .u8 95))⟩, ⟨.some 20, .none, .pick (.t 17) (.t 19) (.c (.bool false))⟩, ⟨.some 2, .none, .mv (.t 20)⟩]) .ret)))
def d49 : Def := (.code 1 [.tmp 2] (.seq (.rg false [⟨.some 2, .none, .mv (.c (.bool false))⟩]) (.seq (.rg false [⟨.some 3, .none, .mv (.f 66)⟩]) (.seq (.rg false [⟨.some 4, .none, .mv (.t 0)⟩, ⟨.some 5, .none, .bin .neq (.t 4) (.c (.string ⟨#[]⟩))⟩, ⟨.some 6, .none, .mv (.t 5)⟩, ⟨.some 7, .some (6, true), .mv (.t 0)⟩, ⟨.some 8, .some (6, true), .lenS (.t 7)⟩, ⟨.some 9, .some (6, true), .bin .leq (.t 8) (.c (.int .i64 64))⟩, ⟨.some 10, .none, .pick (.t 6) (.t 9) (.c (.bool false))⟩, ⟨.some 11, .none, .mv (.t 10)⟩, ⟨.some 12, .some (11, true), .mv (.t 0)⟩, ⟨.some 13, .some (11, true), .s2b (.t 12)⟩, ⟨.some 14, .some (11, true), .mv (.t 3)⟩, ⟨.some 15, .some (11, true), .call 67 .pure [.t 13, .t 14]⟩, ⟨.some 16, .some (11, true), .un .not (.t 15)⟩, ⟨.some 17, .none, .pick (.t 11) (.t 16) (.c (.bool false))⟩, ⟨.some 2, .none, .mv (.t 17)⟩]) .ret))))
def d138 : Def := (.code 1 [.tmp 2] (.seq (.rg false [⟨.some 2, .none, .mv (.c (.bool false))⟩]) (.seq (.rg false [⟨.some 3, .none, .mv (.t 0)⟩, ⟨.some 4, .none, .bin .geq (.t 3) (.c (.int .u8 97))⟩, ⟨.some 5, .none, .mv (.t 4)⟩, ⟨.some 6, .some (5, true), .mv (.t 0)⟩, ⟨.some 7, .some (5, true), .bin .leq (.t 6) (.c (.int .u8 122))⟩, ⟨.some 8, .none, .pick (.t 5) (.t 7) (.c (.bool false))⟩, ⟨.some 9, .none, .mv (.t 8)⟩, ⟨.some 10, .some (9, false), .mv (.t 0)⟩, ⟨.some 11, .some (9, false), .bin .geq (.t 10) (.c (.int .u8 65))⟩, ⟨.some 12, .some (9, false), .mv (.t 11)⟩, ⟨.some 13, .some (12, true), .mv (.t 0)⟩, ⟨.some 14, .some (12, true), .bin .leq (.t 13) (.c (.int .u8 90))⟩, ⟨.some 15, .some (9, false), .pick (.t 12) (.t 14) (.c (.bool false))⟩, ⟨.some 16, .none, .pick (.t 9) (.c (.bool true)) (.t 15)⟩, ⟨.some 17, .none, .mv (.t 16)⟩, ⟨.some 18, .some (17, false), .mv (.t 0)⟩, ⟨.some 19, .some (17, false), .bin .eql (.t 18) (.c (.int .u8 95))⟩, ⟨.some 20, .none, .pick (.t 17) (.c (.bool true)) (.t 19)⟩, ⟨.some 2, .none, .mv (.t 20)⟩]) .ret)))
def d139 : Def := (.code 1 [.tmp 2] (.seq (.rg false [⟨.some 2, .none, .mv (.c (.bool false))⟩]) (.seq (.rg false [⟨.some 3, .none, .mv (.t 0)⟩, ⟨.some 4, .none, .bin .lss (.t 3) (.c (.int .u8 32))⟩, ⟨.some 5, .none, .mv (.t 4)⟩, ⟨.some 6, .some (5, false), .mv (.t 0)⟩, ⟨.some 7, .some (5, false), .bin .gtr (.t 6) (.c (.int .u8 126))⟩, ⟨.some 8, .none, .pick (.t 5) (.c (.bool true)) (.t 7)⟩, ⟨.some 2, .none, .mv (.t 8)⟩]) .ret)))
def d130 : Def := (.code 1 [.tmp 2] (.seq (.rg false [⟨.some 2, .none, .mv (.c (.bool false))⟩]) (.seq (.seq (.rg false [⟨.some 5, .none, .mv (.t 0)⟩, ⟨.some 6, .none, .lenS (.t 5)⟩, ⟨.some 7, .none, .mv (.c (.int .i64 0))⟩]) (.block 0 (.loop (.seq (.rg false [⟨.some 8, .none, .bin .lss (.t 7) (.t 6)⟩]) (.seq (.cond (.t 8) .skip (.exit 0)) (.seq (.block 1 (.seq (.rg false [⟨.some 9, .none, .mv (.t 7)⟩, ⟨.some 3, .none, .mv (.t 9)⟩]) (.seq (.rg false [⟨.some 10, .none, .mv (.t 0)⟩, ⟨.some 11, .none, .mv (.t 3)⟩, ⟨.some 12, .none, .ix (.t 10) (.t 11)⟩, ⟨.some 4, .none, .mv (.t 12)⟩]) (.seq (.rg false [⟨.some 13, .none, .mv (.t 4)⟩, ⟨.some 14, .none, .call 138 .pure [.t 13]⟩, ⟨.some 15, .none, .un .not (.t 14)⟩, ⟨.some 16, .none, .mv (.t 15)⟩, ⟨.some 17, .some (16, true), .mv (.t 3)⟩, ⟨.some 18, .some (16, true), .bin .eql (.t 17) (.c (.int .i64 0))⟩, ⟨.some 19, .some (16, true), .mv (.t 18)⟩, ⟨.some 20, .some (19, false), .mv (.t 4)⟩, ⟨.some 21, .some (19, false), .bin .lss (.t 20) (.c (.int .u8 48))⟩, ⟨.some 22, .some (16, true), .pick (.t 19) (.c (.bool true)) (.t 21)⟩, ⟨.some 23, .some (16, true), .mv (.t 22)⟩, ⟨.some 24, .some (23, false), .mv (.t 4)⟩, ⟨.some 25, .some (23, false), .bin .gtr (.t 24) (.c (.int .u8 57))⟩, ⟨.some 26, .some (16, true), .pick (.t 23) (.c (.bool true)) (.t 25)⟩, ⟨.some 27, .none, .pick (.t 16) (.t 26) (.c (.bool false))⟩]) (.cond (.t 27) (.seq (.rg false [⟨.some 2, .none, .mv (.c (.bool false))⟩]) .ret) .skip))))) (.rg false [⟨.some 28, .none, .bin .add (.t 7) (.c (.int .i64 1))⟩, ⟨.some 7, .none, .mv (.t 28)⟩]))))))) (.seq (.rg false [⟨.some 29, .none, .mv (.t 0)⟩, ⟨.some 30, .none, .bin .neq (.t 29) (.c (.string ⟨#[]⟩))⟩, ⟨.some 31, .none, .mv (.t 30)⟩, ⟨.some 32, .some (31, true), .mv (.t 0)⟩, ⟨.some 33, .some (31, true), .lenS (.t 32)⟩, ⟨.some 34, .some (31, true), .bin .leq (.t 33) (.c (.int .i64 64))⟩, ⟨.some 35, .none, .pick (.t 31) (.t 34) (.c (.bool false))⟩, ⟨.some 2, .none, .mv (.t 35)⟩]) .ret))))
def d131 : Def := (.code 1 [.tmp 2] (.seq (.rg false [⟨.some 2, .none, .mv (.c (.bool false))⟩]) (.seq (.rg false [⟨.some 3, .none, .mv (.t 0)⟩, ⟨.some 4, .none, .bin .neq (.t 3) (.c (.string ⟨#[]⟩))⟩, ⟨.some 5, .none, .mv (.t 4)⟩, ⟨.some 6, .some (5, true), .mv (.t 0)⟩, ⟨.some 7, .some (5, true), .lenS (.t 6)⟩, ⟨.some 8, .some (5, true), .bin .leq (.t 7) (.c (.int .i64 64))⟩, ⟨.some 9, .none, .pick (.t 5) (.t 8) (.c (.bool false))⟩, ⟨.some 10, .none, .mv (.t 9)⟩, ⟨.some 11, .some (10, true), .mv (.t 0)⟩, ⟨.some 12, .some (10, true), .s2b (.t 11)⟩, ⟨.some 13, .some (10, true), .call 67 .pure [.t 12, .f 139]⟩, ⟨.some 14, .some (10, true), .un .not (.t 13)⟩, ⟨.some 15, .none, .pick (.t 10) (.t 14) (.c (.bool false))⟩, ⟨.some 2, .none, .mv (.t 15)⟩]) .ret)))
def la0 : List (Nat × Def) := [(85, d85), (67, d67), (138, d138), (139, d139), (130, d130), (131, d131)]
def law : List (Nat × Def) := [(85, d85), (67, d67), (66, d66), (49, d49)]
def lax : List (Nat × Def) := [(85, d85), (67, d67)]
def Has (l : List (Nat × Def)) (env : Nat → Option Def) : Prop := ∀ p ∈ l, env p.1 = some p.2
section
variable {env : Nat → Option Def} {fr : Fr} {σ : St} {K : Fr → St → Prop}
theorem law_lax (H : Has law env) : Has lax env := fun p hp => H p (by
  simp only [lax, List.mem_cons, List.mem_nil_iff, or_false] at hp
  rcases hp with rfl | rfl <;> simp [law])
theorem la0_lax (H : Has la0 env) : Has lax env := fun p hp => H p (by
  simp only [lax, List.mem_cons, List.mem_nil_iff, or_false] at hp
  rcases hp with rfl | rfl <;> simp [la0])
theorem a66 (H : Has law env) (c : Int) : AV env 66 [.sc (.int .u8 c)] = some (.sc (.bool ((decide (c < 97) || decide (c > 122)) && (decide (c < 48) || decide (c > 57)) && (c != 95)))) := by
  refine AV_wp (H (66, d66) (by simp [law])) rfl ?_
  (repeat' first
    | refine w_seq ?_ | refine w_rg ?_ | refine wo_nil ?_ | refine g_skU ?_ | refine g_skT ?_ | refine g_skF ?_
    | ((first | apply s_plain | apply s_void | apply s_guard | apply g_goT | apply g_goF); · simp only [go_sem, Nat.reduceEqDiff, Nat.reduceAdd, Nat.reduceLeDiff]; (first | done | rfl))
    | ((first | apply g_T | apply g_F | apply g_gT | apply g_gF); · intro q1_; (first | intro q2_ | have q2_ := q1_); simp only [go_sem, Nat.reduceEqDiff, Nat.reduceAdd, Nat.reduceLeDiff, q1_, q2_]; (first | done | rfl))
    | (apply w_condX; · simp only [go_sem, Nat.reduceEqDiff, Nat.reduceAdd, Nat.reduceLeDiff]; (first | done | rfl)); (first | refine wcd_T ?_ | refine wcd_F ?_)
    | refine w_skip ?_ | refine w_exit ?_ | refine w_ret ?_
    | fail
    )
  exact ⟨.inr rfl, by simp only [go_sem, Nat.reduceEqDiff, Nat.reduceAdd, Nat.reduceLeDiff, retOf, resOf]⟩
theorem a138 (H : Has la0 env) (c : Int) : AV env 138 [.sc (.int .u8 c)] = some (.sc (.bool ((decide (c ≥ 97) && decide (c ≤ 122)) || (decide (c ≥ 65) && decide (c ≤ 90)) || (c == 95)))) := by
  refine AV_wp (H (138, d138) (by simp [la0])) rfl ?_
  (repeat' first
    | refine w_seq ?_ | refine w_rg ?_ | refine wo_nil ?_ | refine g_skU ?_ | refine g_skT ?_ | refine g_skF ?_
    | ((first | apply s_plain | apply s_void | apply s_guard | apply g_goT | apply g_goF); · simp only [go_sem, Nat.reduceEqDiff, Nat.reduceAdd, Nat.reduceLeDiff]; (first | done | rfl))
    | ((first | apply g_T | apply g_F | apply g_gT | apply g_gF); · intro q1_; (first | intro q2_ | have q2_ := q1_); simp only [go_sem, Nat.reduceEqDiff, Nat.reduceAdd, Nat.reduceLeDiff, q1_, q2_]; (first | done | rfl))
    | (apply w_condX; · simp only [go_sem, Nat.reduceEqDiff, Nat.reduceAdd, Nat.reduceLeDiff]; (first | done | rfl)); (first | refine wcd_T ?_ | refine wcd_F ?_)
    | refine w_skip ?_ | refine w_exit ?_ | refine w_ret ?_
    | fail
    )
  exact ⟨.inr rfl, by simp only [go_sem, Nat.reduceEqDiff, Nat.reduceAdd, Nat.reduceLeDiff, retOf, resOf]⟩
theorem a139 (H : Has la0 env) (c : Int) : AV env 139 [.sc (.int .u8 c)] = some (.sc (.bool (decide (c < 32) || decide (c > 126)))) := by
  refine AV_wp (H (139, d139) (by simp [la0])) rfl ?_
  (repeat' first
    | refine w_seq ?_ | refine w_rg ?_ | refine wo_nil ?_ | refine g_skU ?_ | refine g_skT ?_ | refine g_skF ?_
    | ((first | apply s_plain | apply s_void | apply s_guard | apply g_goT | apply g_goF); · simp only [go_sem, Nat.reduceEqDiff, Nat.reduceAdd, Nat.reduceLeDiff]; (first | done | rfl))
    | ((first | apply g_T | apply g_F | apply g_gT | apply g_gF); · intro q1_; (first | intro q2_ | have q2_ := q1_); simp only [go_sem, Nat.reduceEqDiff, Nat.reduceAdd, Nat.reduceLeDiff, q1_, q2_]; (first | done | rfl))
    | (apply w_condX; · simp only [go_sem, Nat.reduceEqDiff, Nat.reduceAdd, Nat.reduceLeDiff]; (first | done | rfl)); (first | refine wcd_T ?_ | refine wcd_F ?_)
    | refine w_skip ?_ | refine w_exit ?_ | refine w_ret ?_
    | fail
    )
  exact ⟨.inr rfl, by simp only [go_sem, Nat.reduceEqDiff, Nat.reduceAdd, Nat.reduceLeDiff, retOf, resOf]⟩
def found (p : Nat → Bool) (n : Nat) : Int := match (List.range n).find? p with | some i => i | none => -1
theorem found_hit {p : Nat → Bool} {n i : Nat} (hi : i < n) (h : ∀ j, j < i → p j = false) (hp : p i = true) : found p n = i := by
  unfold found
  have : (List.range n).find? p = some i := by
    rw [List.find?_range_eq_some]
    exact ⟨hp, by simpa using hi, fun j hj => by simpa using h j hj⟩
  rw [this]
theorem found_none {p : Nat → Bool} {n : Nat} (h : ∀ j, j < n → p j = false) : found p n = -1 := by
  unfold found
  have : (List.range n).find? p = none := by
    rw [List.find?_range_eq_none]
    exact fun j hj => by simpa using h j hj
  rw [this]
theorem a85g {k0 : Nat} (hk0 : env k0 = some d85) {xs : List PV} {k : Nat} {a b : List PV} {p : Nat → Bool} (hn : xs.length ≤ 9223372036854775807) (h1 : ∀ (i : Nat) e, xs[i]? = some e → cellsOf e = [e])
    (hz : ∀ (i : Nat) e, xs[i]? = some e → ∀ σ, (a ++ [e] ++ b).mapM (fz σ 12) = some (a ++ [e] ++ b)) (hp : ∀ (i : Nat) e, xs[i]? = some e → AV env k (a ++ [e] ++ b) = some (.sc (.bool (p i)))) :
    AV env k0 [.sl xs, .fn k a b] = some (.sc (.int .i64 (found p xs.length))) := by
  refine AV_wp hk0 rfl ?_
  (repeat' first
    | refine w_seq ?_ | refine w_rg ?_ | refine wo_nil ?_ | refine g_skU ?_ | refine g_skT ?_ | refine g_skF ?_
    | ((first | apply s_plain | apply s_void | apply s_guard | apply g_goT | apply g_goF); · simp only [go_sem, Nat.reduceEqDiff, Nat.reduceAdd, Nat.reduceLeDiff]; (first | done | rfl))
    | ((first | apply g_T | apply g_F | apply g_gT | apply g_gF); · intro q1_; (first | intro q2_ | have q2_ := q1_); simp only [go_sem, Nat.reduceEqDiff, Nat.reduceAdd, Nat.reduceLeDiff, q1_, q2_]; (first | done | rfl))
    | fail
    )
  refine w_block (w_range xs.length hn (fun i fr σ => fr 0 = .sl xs ∧ fr 1 = .fn k a b ∧ ∀ j, j < i → p j = false) (by decide) ?_ ?_ ?_ _ _ ?_ ?_ ?_)
  · rintro i fr σ v ⟨h0, h1, h2⟩
    refine ⟨⟨?_, ?_, h2⟩, ⟨?_, ?_, h2⟩, ⟨?_, ?_, h2⟩⟩ <;> simp only [go_sem, Nat.reduceEqDiff, Nat.reduceAdd, Nat.reduceLeDiff, h0, h1]
  · rintro i fr σ hi ⟨h0, h2, h3⟩ hti htn
    have hx := List.getElem?_eq_getElem hi
    have e1 : (0 : Int) ≤ (i : Int) ∧ (i : Int) < (xs.length : Int) := by omega
    refine w_block ?_
    have hz' := hz i _ hx
    have hp' := hp i _ hx
    simp only [List.append_assoc, List.cons_append, List.nil_append] at hz' hp'
    (repeat' first
    | refine w_seq ?_ | refine w_rg ?_ | refine wo_nil ?_ | refine g_skU ?_ | refine g_skT ?_ | refine g_skF ?_
    | ((first | apply s_plain | apply s_void | apply s_guard | apply g_goT | apply g_goF); · simp only [go_sem, Nat.reduceEqDiff, Nat.reduceAdd, Nat.reduceLeDiff, h0, h2, hti, e1, Int.toNat_natCast, hx, h1 i _ hx, List.append_assoc, hz', hp']; (first | done | rfl))
    | ((first | apply g_T | apply g_F | apply g_gT | apply g_gF); · intro q1_; (first | intro q2_ | have q2_ := q1_); simp only [go_sem, Nat.reduceEqDiff, Nat.reduceAdd, Nat.reduceLeDiff, h0, h2, hti, e1, Int.toNat_natCast, hx, h1 i _ hx, List.append_assoc, hz', hp', q1_, q2_]; (first | done | rfl))
    | fail
    )
    cases hpi : p i with
    | true =>
      (repeat' first
    | refine w_seq ?_ | refine w_rg ?_ | refine wo_nil ?_ | refine g_skU ?_ | refine g_skT ?_ | refine g_skF ?_
    | ((first | apply s_plain | apply s_void | apply s_guard | apply g_goT | apply g_goF); · simp only [go_sem, Nat.reduceEqDiff, Nat.reduceAdd, Nat.reduceLeDiff]; (first | done | rfl))
    | ((first | apply g_T | apply g_F | apply g_gT | apply g_gF); · intro q1_; (first | intro q2_ | have q2_ := q1_); simp only [go_sem, Nat.reduceEqDiff, Nat.reduceAdd, Nat.reduceLeDiff, q1_, q2_]; (first | done | rfl))
    | (apply w_condX; · simp only [go_sem, Nat.reduceEqDiff, Nat.reduceAdd, Nat.reduceLeDiff]; (first | done | rfl)); (first | refine wcd_T ?_ | refine wcd_F ?_)
    | refine w_skip ?_ | refine w_exit ?_ | refine w_ret ?_
    | fail
    )
      exact ⟨.inr rfl, by simp only [go_sem, Nat.reduceEqDiff, Nat.reduceAdd, Nat.reduceLeDiff, retOf, resOf, found_hit hi h3 hpi]⟩
    | false =>
      (repeat' first
    | refine w_seq ?_ | refine w_rg ?_ | refine wo_nil ?_ | refine g_skU ?_ | refine g_skT ?_ | refine g_skF ?_
    | ((first | apply s_plain | apply s_void | apply s_guard | apply g_goT | apply g_goF); · simp only [go_sem, Nat.reduceEqDiff, Nat.reduceAdd, Nat.reduceLeDiff]; (first | done | rfl))
    | ((first | apply g_T | apply g_F | apply g_gT | apply g_gF); · intro q1_; (first | intro q2_ | have q2_ := q1_); simp only [go_sem, Nat.reduceEqDiff, Nat.reduceAdd, Nat.reduceLeDiff, q1_, q2_]; (first | done | rfl))
    | (apply w_condX; · simp only [go_sem, Nat.reduceEqDiff, Nat.reduceAdd, Nat.reduceLeDiff]; (first | done | rfl)); (first | refine wcd_T ?_ | refine wcd_F ?_)
    | refine w_skip ?_ | refine w_exit ?_ | refine w_ret ?_
    | fail
    )
      refine ⟨⟨?_, ?_, fun j hj => ?_⟩, ?_, ?_⟩
      · simp only [go_sem, Nat.reduceEqDiff, Nat.reduceAdd, Nat.reduceLeDiff, h0]
      · simp only [go_sem, Nat.reduceEqDiff, Nat.reduceAdd, Nat.reduceLeDiff, h2]
      · by_cases hji : j = i
        · rw [hji]; exact hpi
        · exact h3 j (by omega)
      · simp only [go_sem, Nat.reduceEqDiff, Nat.reduceAdd, Nat.reduceLeDiff, hti]
      · simp only [go_sem, Nat.reduceEqDiff, Nat.reduceAdd, Nat.reduceLeDiff, htn]
  · rintro fr σ ⟨h0, h2, h3⟩
    simp only [if_true]
    (repeat' first
    | refine w_seq ?_ | refine w_rg ?_ | refine wo_nil ?_ | refine g_skU ?_ | refine g_skT ?_ | refine g_skF ?_
    | ((first | apply s_plain | apply s_void | apply s_guard | apply g_goT | apply g_goF); · simp only [go_sem, Nat.reduceEqDiff, Nat.reduceAdd, Nat.reduceLeDiff]; (first | done | rfl))
    | ((first | apply g_T | apply g_F | apply g_gT | apply g_gF); · intro q1_; (first | intro q2_ | have q2_ := q1_); simp only [go_sem, Nat.reduceEqDiff, Nat.reduceAdd, Nat.reduceLeDiff, q1_, q2_]; (first | done | rfl))
    | (apply w_condX; · simp only [go_sem, Nat.reduceEqDiff, Nat.reduceAdd, Nat.reduceLeDiff]; (first | done | rfl)); (first | refine wcd_T ?_ | refine wcd_F ?_)
    | refine w_skip ?_ | refine w_exit ?_ | refine w_ret ?_
    | fail
    )
    exact ⟨.inr rfl, by simp only [go_sem, Nat.reduceEqDiff, Nat.reduceAdd, Nat.reduceLeDiff, retOf, resOf, found_none h3]⟩
  · refine ⟨?_, ?_, fun j hj => by omega⟩ <;> simp only [go_sem, Nat.reduceEqDiff, Nat.reduceAdd, Nat.reduceLeDiff]
  · simp only [go_sem, Nat.reduceEqDiff, Nat.reduceAdd, Nat.reduceLeDiff]
  · simp only [go_sem, Nat.reduceEqDiff, Nat.reduceAdd, Nat.reduceLeDiff]
theorem a67 (H : Has lax env) {xs : List PV} {k : Nat} {a b : List PV} {n : Int} (ha : ∀ σ, a.mapM (fz σ 11) = some a) (hb : ∀ σ, b.mapM (fz σ 11) = some b) (h : AV env 85 [.sl xs, .fn k a b] = some (.sc (.int .i64 n))) :
    AV env 67 [.sl xs, .fn k a b] = some (.sc (.bool (decide (n ≥ 0)))) := by
  refine AV_wp (H (67, d67) (by simp [lax])) rfl ?_
  (repeat' first
    | refine w_seq ?_ | refine w_rg ?_ | refine wo_nil ?_ | refine g_skU ?_ | refine g_skT ?_ | refine g_skF ?_
    | ((first | apply s_plain | apply s_void | apply s_guard | apply g_goT | apply g_goF); · simp only [go_sem, Nat.reduceEqDiff, Nat.reduceAdd, Nat.reduceLeDiff, h, ha, hb]; (first | done | rfl))
    | ((first | apply g_T | apply g_F | apply g_gT | apply g_gF); · intro q1_; (first | intro q2_ | have q2_ := q1_); simp only [go_sem, Nat.reduceEqDiff, Nat.reduceAdd, Nat.reduceLeDiff, h, ha, hb, q1_, q2_]; (first | done | rfl))
    | (apply w_condX; · simp only [go_sem, Nat.reduceEqDiff, Nat.reduceAdd, Nat.reduceLeDiff, h, ha, hb]; (first | done | rfl)); (first | refine wcd_T ?_ | refine wcd_F ?_)
    | refine w_skip ?_ | refine w_exit ?_ | refine w_ret ?_
    | fail
    )
  exact ⟨.inr rfl, by simp only [go_sem, Nat.reduceEqDiff, Nat.reduceAdd, Nat.reduceLeDiff, retOf, resOf]⟩
def byteAt (s : ByteArray) (i : Nat) : Int := match s.data.toList[i]? with | some u => (u.toNat : Int) | none => 0
theorem bytes_get {s : ByteArray} {i : Nat} {e : PV} (h : (bytesPV s)[i]? = some e) : e = .sc (.int .u8 (byteAt s i)) := by
  unfold bytesPV at h
  rw [List.getElem?_map] at h
  obtain ⟨u, hu, rfl⟩ := Option.map_eq_some_iff.1 h
  unfold byteAt
  rw [hu]
theorem bytes_len (s : ByteArray) : (bytesPV s).length = s.size := by simp [bytesPV]
theorem a85b (H : Has lax env) {s : ByteArray} {k : Nat} {q : Int → Bool} (hn : s.size ≤ 9223372036854775807) (hp : ∀ c, AV env k [.sc (.int .u8 c)] = some (.sc (.bool (q c)))) :
    AV env 85 [.sl (bytesPV s), .fn k [] []] = some (.sc (.int .i64 (found (fun i => q (byteAt s i)) s.size))) := by
  have := a85g (H (85, d85) (by simp [lax])) (xs := bytesPV s) (k := k) (a := []) (b := []) (p := fun i => q (byteAt s i)) (by rw [bytes_len]; exact hn) (fun i e h => by rw [bytes_get h]; rfl) (fun i e h σ => by
    rw [bytes_get h]; rfl) (fun i e h => by rw [bytes_get h]; exact hp _)
  rwa [bytes_len] at this
theorem a67b (H : Has lax env) {s : ByteArray} {k : Nat} {q : Int → Bool} (hn : s.size ≤ 9223372036854775807) (hp : ∀ c, AV env k [.sc (.int .u8 c)] = some (.sc (.bool (q c)))) :
    AV env 67 [.sl (bytesPV s), .fn k [] []] = some (.sc (.bool (decide (found (fun i => q (byteAt s i)) s.size ≥ 0)))) :=
  a67 H (fun _ => rfl) (fun _ => rfl) (a85b H hn hp)
def oddW (c : Int) : Bool := (decide (c < 97) || decide (c > 122)) && (decide (c < 48) || decide (c > 57)) && (c != 95)
def hasB (q : Int → Bool) (s : ByteArray) : Bool := decide (found (fun i => q (byteAt s i)) s.size ≥ 0)
def wordB (s : ByteArray) : Bool := !(s.toList == (⟨#[]⟩ : ByteArray).toList) && decide ((s.size : Int) ≤ 64) && !hasB oddW s
theorem a49 (H : Has law env) {s : ByteArray} (hn : s.size ≤ 9223372036854775807) : AV env 49 [.sc (.string s)] = some (.sc (.bool (wordB s))) := by
  have h1 := a67b (law_lax H) (k := 66) hn (a66 H)
  refine AV_wp (H (49, d49) (by simp [law])) rfl ?_
  (repeat' first
    | refine w_seq ?_ | refine w_rg ?_ | refine wo_nil ?_ | refine g_skU ?_ | refine g_skT ?_ | refine g_skF ?_
    | ((first | apply s_plain | apply s_void | apply s_guard | apply g_goT | apply g_goF); · simp only [go_sem, Nat.reduceEqDiff, Nat.reduceAdd, Nat.reduceLeDiff, h1]; (first | done | rfl))
    | ((first | apply g_T | apply g_F | apply g_gT | apply g_gF); · intro q1_; (first | intro q2_ | have q2_ := q1_); simp only [go_sem, Nat.reduceEqDiff, Nat.reduceAdd, Nat.reduceLeDiff, h1, q1_, q2_]; (first | done | rfl))
    | (apply w_condX; · simp only [go_sem, Nat.reduceEqDiff, Nat.reduceAdd, Nat.reduceLeDiff, h1]; (first | done | rfl)); (first | refine wcd_T ?_ | refine wcd_F ?_)
    | refine w_skip ?_ | refine w_exit ?_ | refine w_ret ?_
    | fail
    )
  exact ⟨.inr rfl, by simp only [go_sem, Nat.reduceEqDiff, Nat.reduceAdd, Nat.reduceLeDiff, retOf, resOf]; rfl⟩
end

section
variable {env : Nat → Option Def} {fr : Fr} {σ : St} {K : Fr → St → Prop}
def letterB (c : Int) : Bool := (decide (c ≥ 97) && decide (c ≤ 122)) || (decide (c ≥ 65) && decide (c ≤ 90)) || (c == 95)
def oddV (c : Int) : Bool := decide (c < 32) || decide (c > 126)
def badN (s : ByteArray) (i : Nat) : Bool := !letterB (byteAt s i) && ((i : Int) == 0 || decide (byteAt s i < 48) || decide (byteAt s i > 57))
def filled (s : ByteArray) : Bool := !(s.toList == (⟨#[]⟩ : ByteArray).toList)
def nameB (s : ByteArray) : Bool := !decide (found (badN s) s.size ≥ 0) && (filled s && decide ((s.size : Int) ≤ 64))
def valueB (s : ByteArray) : Bool := filled s && decide ((s.size : Int) ≤ 64) && !hasB oddV s
theorem byte_get {s : ByteArray} {i : Nat} (hi : i < s.size) : ∃ u : UInt8, s.data.toList[i]? = some u ∧ byteAt s i = (u.toNat : Int) := by
  have h : i < s.data.toList.length := by simpa using hi
  refine ⟨_, List.getElem?_eq_getElem h, ?_⟩
  unfold byteAt
  rw [List.getElem?_eq_getElem h]
theorem a131 (H : Has la0 env) {s : ByteArray} (hn : s.size ≤ 9223372036854775807) : AV env 131 [.sc (.string s)] = some (.sc (.bool (valueB s))) := by
  have h1 := a67b (la0_lax H) (k := 139) hn (a139 H)
  refine AV_wp (H (131, d131) (by simp [la0])) rfl ?_
  (repeat' first
    | refine w_seq ?_ | refine w_rg ?_ | refine wo_nil ?_ | refine g_skU ?_ | refine g_skT ?_ | refine g_skF ?_
    | ((first | apply s_plain | apply s_void | apply s_guard | apply g_goT | apply g_goF); · simp only [go_sem, Nat.reduceEqDiff, Nat.reduceAdd, Nat.reduceLeDiff, h1]; (first | done | rfl))
    | ((first | apply g_T | apply g_F | apply g_gT | apply g_gF); · intro q1_; (first | intro q2_ | have q2_ := q1_); simp only [go_sem, Nat.reduceEqDiff, Nat.reduceAdd, Nat.reduceLeDiff, h1, q1_, q2_]; (first | done | rfl))
    | (apply w_condX; · simp only [go_sem, Nat.reduceEqDiff, Nat.reduceAdd, Nat.reduceLeDiff, h1]; (first | done | rfl)); (first | refine wcd_T ?_ | refine wcd_F ?_)
    | refine w_skip ?_ | refine w_exit ?_ | refine w_ret ?_
    | fail
    )
  exact ⟨.inr rfl, by simp only [go_sem, Nat.reduceEqDiff, Nat.reduceAdd, Nat.reduceLeDiff, retOf, resOf]; rfl⟩
theorem a130 (H : Has la0 env) {s : ByteArray} (hn : s.size ≤ 9223372036854775807) : AV env 130 [.sc (.string s)] = some (.sc (.bool (nameB s))) := by
  refine AV_wp (H (130, d130) (by simp [la0])) rfl ?_
  (repeat' first
    | refine w_seq ?_ | refine w_rg ?_ | refine wo_nil ?_ | refine g_skU ?_ | refine g_skT ?_ | refine g_skF ?_
    | ((first | apply s_plain | apply s_void | apply s_guard | apply g_goT | apply g_goF); · simp only [go_sem, Nat.reduceEqDiff, Nat.reduceAdd, Nat.reduceLeDiff]; (first | done | rfl))
    | ((first | apply g_T | apply g_F | apply g_gT | apply g_gF); · intro q1_; (first | intro q2_ | have q2_ := q1_); simp only [go_sem, Nat.reduceEqDiff, Nat.reduceAdd, Nat.reduceLeDiff, q1_, q2_]; (first | done | rfl))
    | fail
    )
  refine w_block (w_range s.size hn (fun i fr σ => fr 0 = .sc (.string s) ∧ ∀ j, j < i → badN s j = false) (by decide) ?_ ?_ ?_ _ _ ?_ ?_ ?_)
  · rintro i fr σ v ⟨h0, h2⟩
    refine ⟨⟨?_, h2⟩, ⟨?_, h2⟩, ⟨?_, h2⟩⟩ <;> simp only [go_sem, Nat.reduceEqDiff, Nat.reduceAdd, Nat.reduceLeDiff, h0]
  · rintro i fr σ hi ⟨h0, h3⟩ hti htn
    obtain ⟨u, hu, hb⟩ := byte_get hi
    have e1 : (0 : Int) ≤ (i : Int) := by omega
    have h138 := a138 H (u.toNat : Int)
    refine w_block ?_
    (repeat' first
    | refine w_seq ?_ | refine w_rg ?_ | refine wo_nil ?_ | refine g_skU ?_ | refine g_skT ?_ | refine g_skF ?_
    | ((first | apply s_plain | apply s_void | apply s_guard | apply g_goT | apply g_goF); · simp only [go_sem, Nat.reduceEqDiff, Nat.reduceAdd, Nat.reduceLeDiff, h0, hti, e1, Int.toNat_natCast, hu, h138]; (first | done | rfl))
    | ((first | apply g_T | apply g_F | apply g_gT | apply g_gF); · intro q1_; (first | intro q2_ | have q2_ := q1_); simp only [go_sem, Nat.reduceEqDiff, Nat.reduceAdd, Nat.reduceLeDiff, h0, hti, e1, Int.toNat_natCast, hu, h138, q1_, q2_]; (first | done | rfl))
    | fail
    )
    have hbad : badN s i = (!letterB u.toNat && ((i : Int) == 0 || decide ((u.toNat : Int) < 48) || decide ((u.toNat : Int) > 57))) := by unfold badN; rw [hb]
    cases hpi : badN s i with
    | true =>
      refine w_condT (by simp only [go_sem, Nat.reduceEqDiff, Nat.reduceAdd, Nat.reduceLeDiff]; rw [hbad] at hpi; exact congrArg (fun b => PV.sc (.bool b)) hpi) ?_
      (repeat' first
    | refine w_seq ?_ | refine w_rg ?_ | refine wo_nil ?_ | refine g_skU ?_ | refine g_skT ?_ | refine g_skF ?_
    | ((first | apply s_plain | apply s_void | apply s_guard | apply g_goT | apply g_goF); · simp only [go_sem, Nat.reduceEqDiff, Nat.reduceAdd, Nat.reduceLeDiff]; (first | done | rfl))
    | ((first | apply g_T | apply g_F | apply g_gT | apply g_gF); · intro q1_; (first | intro q2_ | have q2_ := q1_); simp only [go_sem, Nat.reduceEqDiff, Nat.reduceAdd, Nat.reduceLeDiff, q1_, q2_]; (first | done | rfl))
    | (apply w_condX; · simp only [go_sem, Nat.reduceEqDiff, Nat.reduceAdd, Nat.reduceLeDiff]; (first | done | rfl)); (first | refine wcd_T ?_ | refine wcd_F ?_)
    | refine w_skip ?_ | refine w_exit ?_ | refine w_ret ?_
    | fail
    )
      exact ⟨.inr rfl, by simp only [go_sem, Nat.reduceEqDiff, Nat.reduceAdd, Nat.reduceLeDiff, retOf, resOf]; simp [nameB, found_hit hi h3 hpi]⟩
    | false =>
      refine w_condF (by simp only [go_sem, Nat.reduceEqDiff, Nat.reduceAdd, Nat.reduceLeDiff]; rw [hbad] at hpi; exact congrArg (fun b => PV.sc (.bool b)) hpi) ?_
      (repeat' first
    | refine w_seq ?_ | refine w_rg ?_ | refine wo_nil ?_ | refine g_skU ?_ | refine g_skT ?_ | refine g_skF ?_
    | ((first | apply s_plain | apply s_void | apply s_guard | apply g_goT | apply g_goF); · simp only [go_sem, Nat.reduceEqDiff, Nat.reduceAdd, Nat.reduceLeDiff]; (first | done | rfl))
    | ((first | apply g_T | apply g_F | apply g_gT | apply g_gF); · intro q1_; (first | intro q2_ | have q2_ := q1_); simp only [go_sem, Nat.reduceEqDiff, Nat.reduceAdd, Nat.reduceLeDiff, q1_, q2_]; (first | done | rfl))
    | (apply w_condX; · simp only [go_sem, Nat.reduceEqDiff, Nat.reduceAdd, Nat.reduceLeDiff]; (first | done | rfl)); (first | refine wcd_T ?_ | refine wcd_F ?_)
    | refine w_skip ?_ | refine w_exit ?_ | refine w_ret ?_
    | fail
    )
      refine ⟨⟨?_, fun j hj => ?_⟩, ?_, ?_⟩
      · simp only [go_sem, Nat.reduceEqDiff, Nat.reduceAdd, Nat.reduceLeDiff, h0]
      · by_cases hji : j = i
        · rw [hji]; exact hpi
        · exact h3 j (by omega)
      · simp only [go_sem, Nat.reduceEqDiff, Nat.reduceAdd, Nat.reduceLeDiff, hti]
      · simp only [go_sem, Nat.reduceEqDiff, Nat.reduceAdd, Nat.reduceLeDiff, htn]
  · rintro fr σ ⟨h0, h3⟩
    simp only [if_true]
    (repeat' first
    | refine w_seq ?_ | refine w_rg ?_ | refine wo_nil ?_ | refine g_skU ?_ | refine g_skT ?_ | refine g_skF ?_
    | ((first | apply s_plain | apply s_void | apply s_guard | apply g_goT | apply g_goF); · simp only [go_sem, Nat.reduceEqDiff, Nat.reduceAdd, Nat.reduceLeDiff, h0]; (first | done | rfl))
    | ((first | apply g_T | apply g_F | apply g_gT | apply g_gF); · intro q1_; (first | intro q2_ | have q2_ := q1_); simp only [go_sem, Nat.reduceEqDiff, Nat.reduceAdd, Nat.reduceLeDiff, h0, q1_, q2_]; (first | done | rfl))
    | (apply w_condX; · simp only [go_sem, Nat.reduceEqDiff, Nat.reduceAdd, Nat.reduceLeDiff, h0]; (first | done | rfl)); (first | refine wcd_T ?_ | refine wcd_F ?_)
    | refine w_skip ?_ | refine w_exit ?_ | refine w_ret ?_
    | fail
    )
    exact ⟨.inr rfl, by simp only [go_sem, Nat.reduceEqDiff, Nat.reduceAdd, Nat.reduceLeDiff, retOf, resOf]; simp [nameB, filled, found_none h3]⟩
  · refine ⟨?_, fun j hj => by omega⟩ <;> simp only [go_sem, Nat.reduceEqDiff, Nat.reduceAdd, Nat.reduceLeDiff]
  · simp only [go_sem, Nat.reduceEqDiff, Nat.reduceAdd, Nat.reduceLeDiff]
  · simp only [go_sem, Nat.reduceEqDiff, Nat.reduceAdd, Nat.reduceLeDiff]
end

def d120 : Def := (.code 1 [.tmp 2] (.seq (.rg false [⟨.some 1, .none, .box (.t 0)⟩, ⟨.some 2, .none, .mv (.c (.bool false))⟩]) (.seq (.rg false [⟨.some 3, .none, .fa 0 (.t 1)⟩, ⟨.some 4, .none, .ld .none (.t 3)⟩, ⟨.some 5, .none, .call 130 .pure [.t 4]⟩, ⟨.some 6, .none, .mv (.t 5)⟩, ⟨.some 7, .some (6, true), .fa 1 (.t 1)⟩, ⟨.some 8, .some (6, true), .ld .none (.t 7)⟩, ⟨.some 9, .some (6, true), .call 131 .pure [.t 8]⟩, ⟨.some 10, .none, .pick (.t 6) (.t 9) (.c (.bool false))⟩, ⟨.some 2, .none, .mv (.t 10)⟩]) .ret)))
def d113 : Def := (.code 1 [.tmp 2] (.seq (.rg false [⟨.some 2, .none, .mv (.c (.bool false))⟩]) (.seq (.seq (.rg false [⟨.some 5, .none, .mv (.t 0)⟩, ⟨.some 6, .none, .lenL (.t 5)⟩, ⟨.some 7, .none, .mv (.c (.int .i64 0))⟩]) (.block 0 (.loop (.seq (.rg false [⟨.some 8, .none, .bin .lss (.t 7) (.t 6)⟩]) (.seq (.cond (.t 8) .skip (.exit 0)) (.seq (.block 1 (.seq (.rg false [⟨.some 9, .none, .mv (.t 7)⟩, ⟨.some 10, .none, .ia 2 (.t 5) (.t 7)⟩, ⟨.some 11, .none, .ld (.some 2) (.t 10)⟩, ⟨.some 4, .none, .box (.c (.agg #[.string ⟨#[]⟩, .string ⟨#[]⟩]))⟩, ⟨.some 3, .none, .mv (.t 9)⟩, ⟨.none, .none, .st 2 (.t 4) (.t 11)⟩]) (.seq (.rg true [⟨.some 12, .none, .ld (.some 2) (.t 4)⟩, ⟨.some 13, .none, .call 120 .strict [.t 12]⟩, ⟨.some 14, .none, .un .not (.t 13)⟩, ⟨.some 15, .none, .mv (.t 14)⟩, ⟨.some 16, .some (15, false), .mv (.t 3)⟩, ⟨.some 17, .some (15, false), .bin .gtr (.t 16) (.c (.int .i64 0))⟩, ⟨.some 18, .some (15, false), .mv (.t 17)⟩, ⟨.some 19, .some (18, true), .mv (.t 0)⟩, ⟨.some 20, .some (18, true), .mv (.t 3)⟩, ⟨.some 21, .some (18, true), .bin .sub (.t 20) (.c (.int .i64 1))⟩, ⟨.some 22, .some (18, true), .ia 2 (.t 19) (.t 21)⟩, ⟨.some 23, .some (18, true), .fa 0 (.t 22)⟩, ⟨.some 24, .some (18, true), .ld .none (.t 23)⟩, ⟨.some 25, .some (18, true), .fa 0 (.t 4)⟩, ⟨.some 26, .some (18, true), .ld .none (.t 25)⟩, ⟨.some 27, .some (18, true), .bin .geq (.t 24) (.t 26)⟩, ⟨.some 28, .some (15, false), .pick (.t 18) (.t 27) (.c (.bool false))⟩, ⟨.some 29, .none, .pick (.t 15) (.c (.bool true)) (.t 28)⟩]) (.cond (.t 29) (.seq (.rg false [⟨.some 2, .none, .mv (.c (.bool false))⟩]) .ret) .skip)))) (.rg false [⟨.some 30, .none, .bin .add (.t 7) (.c (.int .i64 1))⟩, ⟨.some 7, .none, .mv (.t 30)⟩]))))))) (.seq (.rg false [⟨.some 31, .none, .mv (.t 0)⟩, ⟨.some 32, .none, .lenL (.t 31)⟩, ⟨.some 33, .none, .bin .leq (.t 32) (.c (.int .i64 8))⟩, ⟨.some 2, .none, .mv (.t 33)⟩]) .ret))))
def d121 : Def := (.code 2 [.tmp 4] (.seq (.rg false [⟨.some 4, .none, .mv (.c (.int .i64 0))⟩]) (.seq (.seq (.rg false [⟨.some 6, .none, .mv (.t 0)⟩, ⟨.some 7, .none, .lenL (.t 6)⟩, ⟨.some 8, .none, .mv (.c (.int .i64 0))⟩]) (.block 0 (.loop (.seq (.rg false [⟨.some 9, .none, .bin .lss (.t 8) (.t 7)⟩]) (.seq (.cond (.t 9) .skip (.exit 0)) (.seq (.block 1 (.seq (.rg false [⟨.some 10, .none, .mv (.t 8)⟩, ⟨.some 5, .none, .mv (.t 10)⟩]) (.seq (.rg false [⟨.some 11, .none, .mv (.t 1)⟩, ⟨.some 12, .none, .mv (.t 0)⟩, ⟨.some 13, .none, .mv (.t 5)⟩, ⟨.some 14, .none, .ia 2 (.t 12) (.t 13)⟩, ⟨.some 15, .none, .ld (.some 2) (.t 14)⟩, ⟨.some 16, .none, .callv (.t 11) .pure [.t 15]⟩]) (.cond (.t 16) (.seq (.rg false [⟨.some 17, .none, .mv (.t 5)⟩, ⟨.some 4, .none, .mv (.t 17)⟩]) .ret) .skip)))) (.rg false [⟨.some 18, .none, .bin .add (.t 8) (.c (.int .i64 1))⟩, ⟨.some 8, .none, .mv (.t 18)⟩]))))))) (.seq (.rg false [⟨.some 4, .none, .mv (.c (.int .i64 (-1)))⟩]) .ret))))
def d122 : Def := (.code 2 [.tmp 3] (.seq (.rg false [⟨.some 2, .none, .box (.t 0)⟩, ⟨.some 3, .none, .mv (.c (.bool false))⟩]) (.seq (.rg false [⟨.some 4, .none, .fa 0 (.t 2)⟩, ⟨.some 5, .none, .ld .none (.t 4)⟩, ⟨.some 6, .none, .ld .none (.t 1)⟩, ⟨.some 7, .none, .bin .eql (.t 5) (.t 6)⟩, ⟨.some 3, .none, .mv (.t 7)⟩]) .ret)))
def d114 : Def := (.code 2 [.tmp 4] (.seq (.rg false [⟨.some 3, .none, .box (.t 1)⟩, ⟨.some 4, .none, .mv (.c (.string ⟨#[]⟩))⟩]) (.seq (.rg false [⟨.some 6, .none, .mv (.t 0)⟩, ⟨.some 7, .none, .mkf 122 [] [.t 3]⟩, ⟨.some 8, .none, .call 121 .pure [.t 6, .t 7]⟩, ⟨.some 5, .none, .mv (.t 8)⟩]) (.seq (.seq (.rg false [⟨.some 9, .none, .mv (.t 5)⟩, ⟨.some 10, .none, .bin .lss (.t 9) (.c (.int .i64 0))⟩]) (.cond (.t 10) (.seq (.rg false [⟨.some 4, .none, .mv (.c (.string ⟨#[]⟩))⟩]) .ret) .skip)) (.seq (.rg false [⟨.some 11, .none, .mv (.t 0)⟩, ⟨.some 12, .none, .mv (.t 5)⟩, ⟨.some 13, .none, .ia 2 (.t 11) (.t 12)⟩, ⟨.some 14, .none, .fa 1 (.t 13)⟩, ⟨.some 15, .none, .ld .none (.t 14)⟩, ⟨.some 4, .none, .mv (.t 15)⟩]) .ret)))))
def lc : List (Nat × Def) := [(120, d120), (113, d113), (121, d121), (122, d122), (114, d114)]
abbrev Lab := ByteArray × ByteArray
def lab (m : Lab) : PV := .agg [.sc (.string m.1), .sc (.string m.2)]
def labs (l : List Lab) : List PV := l.map lab
def Small (s : ByteArray) : Prop := s.size ≤ 9223372036854775807
section
variable {env : Nat → Option Def} {fr : Fr} {σ : St} {K : Fr → St → Prop}
def mayB (m : Lab) : Bool := nameB m.1 && valueB m.2
theorem a120 (H : Has la0 env) (G : Has lc env) {m : Lab} (h1 : Small m.1) (h2 : Small m.2) : AV env 120 [lab m] = some (.sc (.bool (mayB m))) := by
  have e1 := a130 H h1
  have e2 := a131 H h2
  refine AV_wp (G (120, d120) (by simp [lc])) rfl ?_
  unfold lab
  (repeat' first
    | refine w_seq ?_ | refine w_rg ?_ | refine wo_nil ?_ | refine g_skU ?_ | refine g_skT ?_ | refine g_skF ?_
    | ((first | apply s_plain | apply s_void | apply s_guard | apply g_goT | apply g_goF); · simp only [go_sem, Nat.reduceEqDiff, Nat.reduceAdd, Nat.reduceLeDiff, e1, e2]; (first | done | rfl))
    | ((first | apply g_T | apply g_F | apply g_gT | apply g_gF); · intro q1_; (first | intro q2_ | have q2_ := q1_); simp only [go_sem, Nat.reduceEqDiff, Nat.reduceAdd, Nat.reduceLeDiff, e1, e2, q1_, q2_]; (first | done | rfl))
    | (apply w_condX; · simp only [go_sem, Nat.reduceEqDiff, Nat.reduceAdd, Nat.reduceLeDiff, e1, e2]; (first | done | rfl)); (first | refine wcd_T ?_ | refine wcd_F ?_)
    | refine w_skip ?_ | refine w_exit ?_ | refine w_ret ?_
    | fail
    )
  exact ⟨.inr rfl, by simp only [go_sem, Nat.reduceEqDiff, Nat.reduceAdd, Nat.reduceLeDiff, retOf, resOf]; rfl⟩
theorem a122 (G : Has lc env) {m : Lab} {n : ByteArray} {xs : List PV} (hx : xs = [.sc (.string n)]) : AV env 122 [lab m, .fp xs 0 0] = some (.sc (.bool (m.1.toList == n.toList))) := by
  subst hx
  refine AV_wp (G (122, d122) (by simp [lc])) rfl ?_
  unfold lab
  (repeat' first
    | refine w_seq ?_ | refine w_rg ?_ | refine wo_nil ?_ | refine g_skU ?_ | refine g_skT ?_ | refine g_skF ?_
    | ((first | apply s_plain | apply s_void | apply s_guard | apply g_goT | apply g_goF); · simp only [go_sem, Nat.reduceEqDiff, Nat.reduceAdd, Nat.reduceLeDiff]; (first | done | rfl))
    | ((first | apply g_T | apply g_F | apply g_gT | apply g_gF); · intro q1_; (first | intro q2_ | have q2_ := q1_); simp only [go_sem, Nat.reduceEqDiff, Nat.reduceAdd, Nat.reduceLeDiff, q1_, q2_]; (first | done | rfl))
    | (apply w_condX; · simp only [go_sem, Nat.reduceEqDiff, Nat.reduceAdd, Nat.reduceLeDiff]; (first | done | rfl)); (first | refine wcd_T ?_ | refine wcd_F ?_)
    | refine w_skip ?_ | refine w_exit ?_ | refine w_ret ?_
    | fail
    )
  exact ⟨.inr rfl, by simp only [go_sem, Nat.reduceEqDiff, Nat.reduceAdd, Nat.reduceLeDiff, retOf, resOf]⟩
theorem labs_at {l : List Lab} {i : Nat} {m : Lab} (h : l[i]? = some m) : (labs l)[i]? = some (lab m) := by
  unfold labs
  rw [List.getElem?_map, h]; rfl
theorem labs_len (l : List Lab) : (labs l).length = l.length := by simp [labs]
theorem a121 (G : Has lc env) {l : List Lab} {k : Nat} {a b : List PV} {p : Nat → Bool} (hn : l.length ≤ 9223372036854775807)
    (hz : ∀ m σ, (a ++ [lab m] ++ b).mapM (fz σ 12) = some (a ++ [lab m] ++ b)) (hp : ∀ (i : Nat) m, l[i]? = some m → AV env k (a ++ [lab m] ++ b) = some (.sc (.bool (p i)))) :
    AV env 121 [.sl (labs l), .fn k a b] = some (.sc (.int .i64 (found p l.length))) := by
  refine AV_wp (G (121, d121) (by simp [lc])) rfl ?_
  have hll := labs_len l
  (repeat' first
    | refine w_seq ?_ | refine w_rg ?_ | refine wo_nil ?_ | refine g_skU ?_ | refine g_skT ?_ | refine g_skF ?_
    | ((first | apply s_plain | apply s_void | apply s_guard | apply g_goT | apply g_goF); · simp only [go_sem, Nat.reduceEqDiff, Nat.reduceAdd, Nat.reduceLeDiff, hll]; (first | done | rfl))
    | ((first | apply g_T | apply g_F | apply g_gT | apply g_gF); · intro q1_; (first | intro q2_ | have q2_ := q1_); simp only [go_sem, Nat.reduceEqDiff, Nat.reduceAdd, Nat.reduceLeDiff, hll, q1_, q2_]; (first | done | rfl))
    | fail
    )
  refine w_block (w_range l.length hn (fun i fr σ => fr 0 = .sl (labs l) ∧ fr 1 = .fn k a b ∧ ∀ j, j < i → p j = false) (by decide) ?_ ?_ ?_ _ _ ?_ ?_ ?_)
  · rintro i fr σ v ⟨h0, h1, h2⟩
    refine ⟨⟨?_, ?_, h2⟩, ⟨?_, ?_, h2⟩, ⟨?_, ?_, h2⟩⟩ <;> simp only [go_sem, Nat.reduceEqDiff, Nat.reduceAdd, Nat.reduceLeDiff, h0, h1]
  · rintro i fr σ hi ⟨h0, h2, h3⟩ hti htn
    have hx := List.getElem?_eq_getElem hi
    have hy := labs_at hx
    have e1 : (0 : Int) ≤ (i : Int) ∧ (i : Int) < (l.length : Int) := by omega
    refine w_block ?_
    have hz' := hz l[i]
    have hp' := hp i _ hx
    simp only [lab, List.append_assoc, List.cons_append, List.nil_append] at hz' hp' hy
    (repeat' first
    | refine w_seq ?_ | refine w_rg ?_ | refine wo_nil ?_ | refine g_skU ?_ | refine g_skT ?_ | refine g_skF ?_
    | ((first | apply s_plain | apply s_void | apply s_guard | apply g_goT | apply g_goF); · simp only [go_sem, Nat.reduceEqDiff, Nat.reduceAdd, Nat.reduceLeDiff, h0, h2, hti, e1, hll, Int.toNat_natCast, hy, List.append_assoc, hz', hp']; (first | done | rfl))
    | ((first | apply g_T | apply g_F | apply g_gT | apply g_gF); · intro q1_; (first | intro q2_ | have q2_ := q1_); simp only [go_sem, Nat.reduceEqDiff, Nat.reduceAdd, Nat.reduceLeDiff, h0, h2, hti, e1, hll, Int.toNat_natCast, hy, List.append_assoc, hz', hp', q1_, q2_]; (first | done | rfl))
    | fail
    )
    cases hpi : p i with
    | true =>
      (repeat' first
    | refine w_seq ?_ | refine w_rg ?_ | refine wo_nil ?_ | refine g_skU ?_ | refine g_skT ?_ | refine g_skF ?_
    | ((first | apply s_plain | apply s_void | apply s_guard | apply g_goT | apply g_goF); · simp only [go_sem, Nat.reduceEqDiff, Nat.reduceAdd, Nat.reduceLeDiff]; (first | done | rfl))
    | ((first | apply g_T | apply g_F | apply g_gT | apply g_gF); · intro q1_; (first | intro q2_ | have q2_ := q1_); simp only [go_sem, Nat.reduceEqDiff, Nat.reduceAdd, Nat.reduceLeDiff, q1_, q2_]; (first | done | rfl))
    | (apply w_condX; · simp only [go_sem, Nat.reduceEqDiff, Nat.reduceAdd, Nat.reduceLeDiff]; (first | done | rfl)); (first | refine wcd_T ?_ | refine wcd_F ?_)
    | refine w_skip ?_ | refine w_exit ?_ | refine w_ret ?_
    | fail
    )
      exact ⟨.inr rfl, by simp only [go_sem, Nat.reduceEqDiff, Nat.reduceAdd, Nat.reduceLeDiff, retOf, resOf, found_hit hi h3 hpi]⟩
    | false =>
      (repeat' first
    | refine w_seq ?_ | refine w_rg ?_ | refine wo_nil ?_ | refine g_skU ?_ | refine g_skT ?_ | refine g_skF ?_
    | ((first | apply s_plain | apply s_void | apply s_guard | apply g_goT | apply g_goF); · simp only [go_sem, Nat.reduceEqDiff, Nat.reduceAdd, Nat.reduceLeDiff]; (first | done | rfl))
    | ((first | apply g_T | apply g_F | apply g_gT | apply g_gF); · intro q1_; (first | intro q2_ | have q2_ := q1_); simp only [go_sem, Nat.reduceEqDiff, Nat.reduceAdd, Nat.reduceLeDiff, q1_, q2_]; (first | done | rfl))
    | (apply w_condX; · simp only [go_sem, Nat.reduceEqDiff, Nat.reduceAdd, Nat.reduceLeDiff]; (first | done | rfl)); (first | refine wcd_T ?_ | refine wcd_F ?_)
    | refine w_skip ?_ | refine w_exit ?_ | refine w_ret ?_
    | fail
    )
      refine ⟨⟨?_, ?_, fun j hj => ?_⟩, ?_, ?_⟩
      · simp only [go_sem, Nat.reduceEqDiff, Nat.reduceAdd, Nat.reduceLeDiff, h0]
      · simp only [go_sem, Nat.reduceEqDiff, Nat.reduceAdd, Nat.reduceLeDiff, h2]
      · by_cases hji : j = i
        · rw [hji]; exact hpi
        · exact h3 j (by omega)
      · simp only [go_sem, Nat.reduceEqDiff, Nat.reduceAdd, Nat.reduceLeDiff, hti]
      · simp only [go_sem, Nat.reduceEqDiff, Nat.reduceAdd, Nat.reduceLeDiff, htn]
  · rintro fr σ ⟨h0, h2, h3⟩
    simp only [if_true]
    (repeat' first
    | refine w_seq ?_ | refine w_rg ?_ | refine wo_nil ?_ | refine g_skU ?_ | refine g_skT ?_ | refine g_skF ?_
    | ((first | apply s_plain | apply s_void | apply s_guard | apply g_goT | apply g_goF); · simp only [go_sem, Nat.reduceEqDiff, Nat.reduceAdd, Nat.reduceLeDiff]; (first | done | rfl))
    | ((first | apply g_T | apply g_F | apply g_gT | apply g_gF); · intro q1_; (first | intro q2_ | have q2_ := q1_); simp only [go_sem, Nat.reduceEqDiff, Nat.reduceAdd, Nat.reduceLeDiff, q1_, q2_]; (first | done | rfl))
    | (apply w_condX; · simp only [go_sem, Nat.reduceEqDiff, Nat.reduceAdd, Nat.reduceLeDiff]; (first | done | rfl)); (first | refine wcd_T ?_ | refine wcd_F ?_)
    | refine w_skip ?_ | refine w_exit ?_ | refine w_ret ?_
    | fail
    )
    exact ⟨.inr rfl, by simp only [go_sem, Nat.reduceEqDiff, Nat.reduceAdd, Nat.reduceLeDiff, retOf, resOf, found_none h3]⟩
  · refine ⟨?_, ?_, fun j hj => by omega⟩ <;> simp only [go_sem, Nat.reduceEqDiff, Nat.reduceAdd, Nat.reduceLeDiff]
  · simp only [go_sem, Nat.reduceEqDiff, Nat.reduceAdd, Nat.reduceLeDiff]
  · simp only [go_sem, Nat.reduceEqDiff, Nat.reduceAdd, Nat.reduceLeDiff, hll]
end

section
variable {env : Nat → Option Def} {fr : Fr} {σ : St} {K : Fr → St → Prop}
def nth (l : List Lab) (i : Nat) : Lab := l[i]?.getD (⟨#[]⟩, ⟨#[]⟩)
def badL (l : List Lab) (i : Nat) : Bool := !mayB (nth l i) || (decide ((i : Int) > 0) && !Op.bytesLess (nth l (i - 1)).1.toList (nth l i).1.toList)
def rightL (l : List Lab) : Bool := !decide (found (badL l) l.length ≥ 0) && decide ((l.length : Int) ≤ 8)
def Smalls (l : List Lab) : Prop := ∀ m ∈ l, Small m.1 ∧ Small m.2
theorem a113 (H : Has la0 env) (G : Has lc env) {l : List Lab} (hn : l.length ≤ 9223372036854775807) (hl : Smalls l) : AV env 113 [.sl (labs l)] = some (.sc (.bool (rightL l))) := by
  refine AV_wp (G (113, d113) (by simp [lc])) rfl ?_
  have hll := labs_len l
  (repeat' first
    | refine w_seq ?_ | refine w_rg ?_ | refine wo_nil ?_ | refine g_skU ?_ | refine g_skT ?_ | refine g_skF ?_
    | ((first | apply s_plain | apply s_void | apply s_guard | apply g_goT | apply g_goF); · simp only [go_sem, Nat.reduceEqDiff, Nat.reduceAdd, Nat.reduceLeDiff, hll]; (first | done | rfl))
    | ((first | apply g_T | apply g_F | apply g_gT | apply g_gF); · intro q1_; (first | intro q2_ | have q2_ := q1_); simp only [go_sem, Nat.reduceEqDiff, Nat.reduceAdd, Nat.reduceLeDiff, hll, q1_, q2_]; (first | done | rfl))
    | fail
    )
  refine w_block (w_range l.length hn (fun i fr σ => fr 0 = .sl (labs l) ∧ fr 5 = .sl (labs l) ∧ ∀ j, j < i → badL l j = false) (by decide) ?_ ?_ ?_ _ _ ?_ ?_ ?_)
  · rintro i fr σ v ⟨h0, h1, h2⟩
    refine ⟨⟨?_, ?_, h2⟩, ⟨?_, ?_, h2⟩, ⟨?_, ?_, h2⟩⟩ <;> simp only [go_sem, Nat.reduceEqDiff, Nat.reduceAdd, Nat.reduceLeDiff, h0, h1]
  · rintro i fr σ hi ⟨h0, h5, h3⟩ hti htn
    have hx := List.getElem?_eq_getElem hi
    have hy := labs_at hx
    have hni : nth l i = l[i] := by unfold nth; rw [hx]; rfl
    have e1 : (0 : Int) ≤ (i : Int) ∧ (i : Int) < (l.length : Int) := by omega
    have hm := a120 H G (hl _ (List.getElem_mem hi)).1 (hl _ (List.getElem_mem hi)).2
    refine w_block ?_
    simp only [lab] at hy hm
    (repeat' first
    | refine w_seq ?_ | refine w_rg ?_ | refine wo_nil ?_ | refine g_skU ?_ | refine g_skT ?_ | refine g_skF ?_
    | ((first | apply s_plain | apply s_void | apply s_guard | apply g_goT | apply g_goF); · simp only [go_sem, Nat.reduceEqDiff, Nat.reduceAdd, Nat.reduceLeDiff, h0, h5, hti, e1, hll, Int.toNat_natCast, hy, hm, and_true, true_and, if_true, List.modify_cons, List.modify_zero_cons, Nat.lt_irrefl, Nat.zero_lt_one, Nat.lt_add_one]; (first | done | rfl))
    | ((first | apply g_T | apply g_F | apply g_gT | apply g_gF); · intro q1_; (first | intro q2_ | have q2_ := q1_); simp only [go_sem, Nat.reduceEqDiff, Nat.reduceAdd, Nat.reduceLeDiff, h0, h5, hti, e1, hll, Int.toNat_natCast, hy, hm, and_true, true_and, if_true, List.modify_cons, List.modify_zero_cons, Nat.lt_irrefl, Nat.zero_lt_one, Nat.lt_add_one, q1_, q2_]; (first | done | rfl))
    | fail
    )
    have hx' : l[i - 1]? = some (nth l (i - 1)) := by
      have : i - 1 < l.length := by omega
      unfold nth; rw [List.getElem?_eq_getElem this]; rfl
    have hy' := labs_at hx'
    simp only [lab] at hy'
    refine g_gT (v := .fp (labs l) (i - 1) 0) (by
      intro hb hc
      have hpos : 0 < i := by simpa using hc
      have e2 : IntKind.i64.wrap ((i : Int) - 1) = ((i - 1 : Nat) : Int) := by rw [IntKind.wrap_i64]; omega
      have e3 : (0 : Int) ≤ ((i - 1 : Nat) : Int) ∧ ((i - 1 : Nat) : Int) < (l.length : Int) := by omega
      simp only [go_sem, Nat.reduceEqDiff, Nat.reduceAdd, Nat.reduceLeDiff, h0, hb, hc, e2, e3, hll, Int.toNat_natCast, hy']) ?_
    (repeat' first
    | refine w_seq ?_ | refine w_rg ?_ | refine wo_nil ?_ | refine g_skU ?_ | refine g_skT ?_ | refine g_skF ?_
    | ((first | apply s_plain | apply s_void | apply s_guard | apply g_goT | apply g_goF); · simp only [go_sem, Nat.reduceEqDiff, Nat.reduceAdd, Nat.reduceLeDiff, h0, hy', and_true, true_and, if_true]; (first | done | rfl))
    | ((first | apply g_T | apply g_F | apply g_gT | apply g_gF); · intro q1_; (first | intro q2_ | have q2_ := q1_); simp only [go_sem, Nat.reduceEqDiff, Nat.reduceAdd, Nat.reduceLeDiff, h0, hy', and_true, true_and, if_true, q1_, q2_]; (first | done | rfl))
    | fail
    )
    have hbad : badL l i = (!mayB l[i] || (decide ((i : Int) > 0) && !Op.bytesLess (nth l (i - 1)).1.toList l[i].1.toList)) := by unfold badL; rw [hni]
    cases hpi : badL l i with
    | true =>
      refine w_condT (by simp only [go_sem, Nat.reduceEqDiff, Nat.reduceAdd, Nat.reduceLeDiff]; rw [hbad] at hpi; exact congrArg (fun b => PV.sc (.bool b)) hpi) ?_
      (repeat' first
    | refine w_seq ?_ | refine w_rg ?_ | refine wo_nil ?_ | refine g_skU ?_ | refine g_skT ?_ | refine g_skF ?_
    | ((first | apply s_plain | apply s_void | apply s_guard | apply g_goT | apply g_goF); · simp only [go_sem, Nat.reduceEqDiff, Nat.reduceAdd, Nat.reduceLeDiff]; (first | done | rfl))
    | ((first | apply g_T | apply g_F | apply g_gT | apply g_gF); · intro q1_; (first | intro q2_ | have q2_ := q1_); simp only [go_sem, Nat.reduceEqDiff, Nat.reduceAdd, Nat.reduceLeDiff, q1_, q2_]; (first | done | rfl))
    | (apply w_condX; · simp only [go_sem, Nat.reduceEqDiff, Nat.reduceAdd, Nat.reduceLeDiff]; (first | done | rfl)); (first | refine wcd_T ?_ | refine wcd_F ?_)
    | refine w_skip ?_ | refine w_exit ?_ | refine w_ret ?_
    | fail
    )
      exact ⟨.inr rfl, by simp only [go_sem, Nat.reduceEqDiff, Nat.reduceAdd, Nat.reduceLeDiff, retOf, resOf]; simp [rightL, found_hit hi h3 hpi]⟩
    | false =>
      refine w_condF (by simp only [go_sem, Nat.reduceEqDiff, Nat.reduceAdd, Nat.reduceLeDiff]; rw [hbad] at hpi; exact congrArg (fun b => PV.sc (.bool b)) hpi) ?_
      (repeat' first
    | refine w_seq ?_ | refine w_rg ?_ | refine wo_nil ?_ | refine g_skU ?_ | refine g_skT ?_ | refine g_skF ?_
    | ((first | apply s_plain | apply s_void | apply s_guard | apply g_goT | apply g_goF); · simp only [go_sem, Nat.reduceEqDiff, Nat.reduceAdd, Nat.reduceLeDiff]; (first | done | rfl))
    | ((first | apply g_T | apply g_F | apply g_gT | apply g_gF); · intro q1_; (first | intro q2_ | have q2_ := q1_); simp only [go_sem, Nat.reduceEqDiff, Nat.reduceAdd, Nat.reduceLeDiff, q1_, q2_]; (first | done | rfl))
    | (apply w_condX; · simp only [go_sem, Nat.reduceEqDiff, Nat.reduceAdd, Nat.reduceLeDiff]; (first | done | rfl)); (first | refine wcd_T ?_ | refine wcd_F ?_)
    | refine w_skip ?_ | refine w_exit ?_ | refine w_ret ?_
    | fail
    )
      refine ⟨⟨?_, ?_, fun j hj => ?_⟩, ?_, ?_⟩
      · simp only [go_sem, Nat.reduceEqDiff, Nat.reduceAdd, Nat.reduceLeDiff, h0]
      · simp only [go_sem, Nat.reduceEqDiff, Nat.reduceAdd, Nat.reduceLeDiff, h5]
      · by_cases hji : j = i
        · rw [hji]; exact hpi
        · exact h3 j (by omega)
      · simp only [go_sem, Nat.reduceEqDiff, Nat.reduceAdd, Nat.reduceLeDiff, hti]
      · simp only [go_sem, Nat.reduceEqDiff, Nat.reduceAdd, Nat.reduceLeDiff, htn]
  · rintro fr σ ⟨h0, h5, h3⟩
    simp only [if_true]
    (repeat' first
    | refine w_seq ?_ | refine w_rg ?_ | refine wo_nil ?_ | refine g_skU ?_ | refine g_skT ?_ | refine g_skF ?_
    | ((first | apply s_plain | apply s_void | apply s_guard | apply g_goT | apply g_goF); · simp only [go_sem, Nat.reduceEqDiff, Nat.reduceAdd, Nat.reduceLeDiff, h0, hll]; (first | done | rfl))
    | ((first | apply g_T | apply g_F | apply g_gT | apply g_gF); · intro q1_; (first | intro q2_ | have q2_ := q1_); simp only [go_sem, Nat.reduceEqDiff, Nat.reduceAdd, Nat.reduceLeDiff, h0, hll, q1_, q2_]; (first | done | rfl))
    | (apply w_condX; · simp only [go_sem, Nat.reduceEqDiff, Nat.reduceAdd, Nat.reduceLeDiff, h0, hll]; (first | done | rfl)); (first | refine wcd_T ?_ | refine wcd_F ?_)
    | refine w_skip ?_ | refine w_exit ?_ | refine w_ret ?_
    | fail
    )
    exact ⟨.inr rfl, by simp only [go_sem, Nat.reduceEqDiff, Nat.reduceAdd, Nat.reduceLeDiff, retOf, resOf]; simp [rightL, found_none h3]⟩
  · refine ⟨?_, ?_, fun j hj => by omega⟩ <;> simp only [go_sem, Nat.reduceEqDiff, Nat.reduceAdd, Nat.reduceLeDiff]
  · simp only [go_sem, Nat.reduceEqDiff, Nat.reduceAdd, Nat.reduceLeDiff]
  · simp only [go_sem, Nat.reduceEqDiff, Nat.reduceAdd, Nat.reduceLeDiff, hll]
end

section
variable {env : Nat → Option Def} {fr : Fr} {σ : St} {K : Fr → St → Prop} {Q : X → Fr → St → Prop}
def lessB (a b : ByteArray) : Bool := Op.bytesLess a.toList b.toList
end

section
variable {env : Nat → Option Def} {fr : Fr} {σ : St} {K : Fr → St → Prop}
theorem found_lt {p : Nat → Bool} {n : Nat} (h : ¬ found p n < 0) : ∃ i : Nat, found p n = i ∧ i < n := by
  unfold found at h ⊢
  cases hf : (List.range n).find? p with
  | none => rw [hf] at h; simp at h
  | some i =>
    have := List.mem_of_find?_eq_some hf
    exact ⟨i, rfl, by simpa using this⟩
def isN (l : List Lab) (n : ByteArray) (i : Nat) : Bool := (nth l i).1.toList == n.toList
def getB (l : List Lab) (n : ByteArray) : ByteArray := if found (isN l n) l.length < 0 then ⟨#[]⟩ else (nth l (found (isN l n) l.length).toNat).2
theorem a114 (G : Has lc env) {l : List Lab} {n : ByteArray} (hn : l.length ≤ 9223372036854775807) : AV env 114 [.sl (labs l), .sc (.string n)] = some (.sc (.string (getB l n))) := by
  have h121 := a121 G (l := l) (k := 122) (a := []) (b := [.fp [.sc (.string n)] 0 0]) (p := isN l n) hn (fun m σ => rfl) (fun i m hm => by
    have := a122 G (m := m) (n := n) (xs := [.sc (.string n)]) rfl
    have e : nth l i = m := by unfold nth; rw [hm]; rfl
    rw [isN, e]
    exact this)
  refine AV_wp (G (114, d114) (by simp [lc])) rfl ?_
  have hll := labs_len l
  (repeat' first
    | refine w_seq ?_ | refine w_rg ?_ | refine wo_nil ?_ | refine g_skU ?_ | refine g_skT ?_ | refine g_skF ?_
    | ((first | apply s_plain | apply s_void | apply s_guard | apply g_goT | apply g_goF); · simp only [go_sem, Nat.reduceEqDiff, Nat.reduceAdd, Nat.reduceLeDiff, h121]; (first | done | rfl))
    | ((first | apply g_T | apply g_F | apply g_gT | apply g_gF); · intro q1_; (first | intro q2_ | have q2_ := q1_); simp only [go_sem, Nat.reduceEqDiff, Nat.reduceAdd, Nat.reduceLeDiff, h121, q1_, q2_]; (first | done | rfl))
    | fail
    )
  by_cases hlt : found (isN l n) l.length < 0
  · (repeat' first
    | refine w_seq ?_ | refine w_rg ?_ | refine wo_nil ?_ | refine g_skU ?_ | refine g_skT ?_ | refine g_skF ?_
    | ((first | apply s_plain | apply s_void | apply s_guard | apply g_goT | apply g_goF); · simp only [go_sem, Nat.reduceEqDiff, Nat.reduceAdd, Nat.reduceLeDiff, hlt, decide_true]; (first | done | rfl))
    | ((first | apply g_T | apply g_F | apply g_gT | apply g_gF); · intro q1_; (first | intro q2_ | have q2_ := q1_); simp only [go_sem, Nat.reduceEqDiff, Nat.reduceAdd, Nat.reduceLeDiff, hlt, decide_true, q1_, q2_]; (first | done | rfl))
    | (apply w_condX; · simp only [go_sem, Nat.reduceEqDiff, Nat.reduceAdd, Nat.reduceLeDiff, hlt, decide_true]; (first | done | rfl)); (first | refine wcd_T ?_ | refine wcd_F ?_)
    | refine w_skip ?_ | refine w_exit ?_ | refine w_ret ?_
    | fail
    )
    exact ⟨.inr rfl, by simp only [go_sem, Nat.reduceEqDiff, Nat.reduceAdd, Nat.reduceLeDiff, retOf, resOf]; simp [getB, hlt]⟩
  · (repeat' first
    | refine w_seq ?_ | refine w_rg ?_ | refine wo_nil ?_ | refine g_skU ?_ | refine g_skT ?_ | refine g_skF ?_
    | ((first | apply s_plain | apply s_void | apply s_guard | apply g_goT | apply g_goF); · simp only [go_sem, Nat.reduceEqDiff, Nat.reduceAdd, Nat.reduceLeDiff, hlt, decide_false]; (first | done | rfl))
    | ((first | apply g_T | apply g_F | apply g_gT | apply g_gF); · intro q1_; (first | intro q2_ | have q2_ := q1_); simp only [go_sem, Nat.reduceEqDiff, Nat.reduceAdd, Nat.reduceLeDiff, hlt, decide_false, q1_, q2_]; (first | done | rfl))
    | (apply w_condX; · simp only [go_sem, Nat.reduceEqDiff, Nat.reduceAdd, Nat.reduceLeDiff, hlt, decide_false]; (first | done | rfl)); (first | refine wcd_T ?_ | refine wcd_F ?_)
    | refine w_skip ?_ | refine w_exit ?_ | refine w_ret ?_
    | fail
    )
    obtain ⟨i, hi, hil⟩ := found_lt hlt
    have hx : l[i]? = some (nth l i) := by unfold nth; rw [List.getElem?_eq_getElem hil]; rfl
    have hy := labs_at hx
    simp only [lab] at hy
    have e1 : (0 : Int) ≤ (i : Int) ∧ (i : Int) < (l.length : Int) := by omega
    (repeat' first
    | refine w_seq ?_ | refine w_rg ?_ | refine wo_nil ?_ | refine g_skU ?_ | refine g_skT ?_ | refine g_skF ?_
    | ((first | apply s_plain | apply s_void | apply s_guard | apply g_goT | apply g_goF); · simp only [go_sem, Nat.reduceEqDiff, Nat.reduceAdd, Nat.reduceLeDiff, hi, hy, hll, e1, Int.toNat_natCast]; (first | done | rfl))
    | ((first | apply g_T | apply g_F | apply g_gT | apply g_gF); · intro q1_; (first | intro q2_ | have q2_ := q1_); simp only [go_sem, Nat.reduceEqDiff, Nat.reduceAdd, Nat.reduceLeDiff, hi, hy, hll, e1, Int.toNat_natCast, q1_, q2_]; (first | done | rfl))
    | (apply w_condX; · simp only [go_sem, Nat.reduceEqDiff, Nat.reduceAdd, Nat.reduceLeDiff, hi, hy, hll, e1, Int.toNat_natCast]; (first | done | rfl)); (first | refine wcd_T ?_ | refine wcd_F ?_)
    | refine w_skip ?_ | refine w_exit ?_ | refine w_ret ?_
    | fail
    )
    have e2 : ¬ ((i : Int) < 0) := by omega
    exact ⟨.inr rfl, by simp only [go_sem, Nat.reduceEqDiff, Nat.reduceAdd, Nat.reduceLeDiff, retOf, resOf]; simp [getB, hi, e2]⟩
end

def d68 : Def := (.code 2 [.tmp 4] (.seq (.rg false [⟨.some 4, .none, .mv (.c (.int .i64 0))⟩]) (.seq (.seq (.rg false [⟨.some 6, .none, .mv (.t 0)⟩, ⟨.some 7, .none, .lenL (.t 6)⟩, ⟨.some 8, .none, .mv (.c (.int .i64 0))⟩]) (.block 0 (.loop (.seq (.rg false [⟨.some 9, .none, .bin .lss (.t 8) (.t 7)⟩]) (.seq (.cond (.t 9) .skip (.exit 0)) (.seq (.block 1 (.seq (.rg false [⟨.some 10, .none, .mv (.t 8)⟩, ⟨.some 5, .none, .mv (.t 10)⟩]) (.seq (.rg false [⟨.some 11, .none, .mv (.t 1)⟩, ⟨.some 12, .none, .mv (.t 0)⟩, ⟨.some 13, .none, .mv (.t 5)⟩, ⟨.some 14, .none, .ia 1 (.t 12) (.t 13)⟩, ⟨.some 15, .none, .ld .none (.t 14)⟩, ⟨.some 16, .none, .callv (.t 11) .pure [.t 15]⟩]) (.cond (.t 16) (.seq (.rg false [⟨.some 17, .none, .mv (.t 5)⟩, ⟨.some 4, .none, .mv (.t 17)⟩]) .ret) .skip)))) (.rg false [⟨.some 18, .none, .bin .add (.t 8) (.c (.int .i64 1))⟩, ⟨.some 8, .none, .mv (.t 18)⟩]))))))) (.seq (.rg false [⟨.some 4, .none, .mv (.c (.int .i64 (-1)))⟩]) .ret))))
def d51 : Def := (.code 2 [.tmp 4] (.seq (.rg false [⟨.some 4, .none, .mv (.c (.bool false))⟩]) (.seq (.rg false [⟨.some 5, .none, .mv (.t 0)⟩, ⟨.some 6, .none, .mv (.t 1)⟩, ⟨.some 7, .none, .call 68 .pure [.t 5, .t 6]⟩, ⟨.some 8, .none, .bin .geq (.t 7) (.c (.int .i64 0))⟩, ⟨.some 4, .none, .mv (.t 8)⟩]) .ret)))
def d29 : Def := (.code 1 [.tmp 2] (.seq (.rg false [⟨.some 1, .none, .box (.t 0)⟩, ⟨.some 2, .none, .mv (.c (.bool false))⟩]) (.seq (.seq (.rg false [⟨.some 5, .none, .fa 1 (.t 1)⟩, ⟨.some 6, .none, .ld .none (.t 5)⟩, ⟨.some 7, .none, .lenL (.t 6)⟩, ⟨.some 8, .none, .mv (.c (.int .i64 0))⟩]) (.block 0 (.loop (.seq (.rg false [⟨.some 9, .none, .bin .lss (.t 8) (.t 7)⟩]) (.seq (.cond (.t 9) .skip (.exit 0)) (.seq (.block 1 (.seq (.rg false [⟨.some 10, .none, .mv (.t 8)⟩, ⟨.some 11, .none, .ia 1 (.t 6) (.t 8)⟩, ⟨.some 12, .none, .ld .none (.t 11)⟩, ⟨.some 3, .none, .mv (.t 10)⟩, ⟨.some 4, .none, .mv (.t 12)⟩]) (.seq (.rg false [⟨.some 13, .none, .mv (.t 4)⟩, ⟨.some 14, .none, .call 49 .pure [.t 13]⟩, ⟨.some 15, .none, .un .not (.t 14)⟩, ⟨.some 16, .none, .mv (.t 15)⟩, ⟨.some 17, .some (16, false), .fa 1 (.t 1)⟩, ⟨.some 18, .some (16, false), .ld .none (.t 17)⟩, ⟨.some 19, .some (16, false), .mv (.t 3)⟩, ⟨.some 20, .some (16, false), .slcL 1 (.t 18) .none (.some (.t 19))⟩, ⟨.some 21, .some (16, false), .mv (.t 4)⟩, ⟨.some 22, .some (16, false), .call 50 .pure [.t 20, .t 21]⟩, ⟨.some 23, .none, .pick (.t 16) (.c (.bool true)) (.t 22)⟩]) (.cond (.t 23) (.seq (.rg false [⟨.some 2, .none, .mv (.c (.bool false))⟩]) .ret) .skip)))) (.rg false [⟨.some 24, .none, .bin .add (.t 8) (.c (.int .i64 1))⟩, ⟨.some 8, .none, .mv (.t 24)⟩]))))))) (.seq (.rg false [⟨.some 25, .none, .fa 0 (.t 1)⟩, ⟨.some 26, .none, .ld .none (.t 25)⟩, ⟨.some 27, .none, .call 49 .pure [.t 26]⟩, ⟨.some 28, .none, .mv (.t 27)⟩, ⟨.some 29, .some (28, true), .fa 1 (.t 1)⟩, ⟨.some 30, .some (28, true), .ld .none (.t 29)⟩, ⟨.some 31, .some (28, true), .lenL (.t 30)⟩, ⟨.some 32, .some (28, true), .bin .leq (.t 31) (.c (.int .i64 64))⟩, ⟨.some 33, .none, .pick (.t 28) (.t 32) (.c (.bool false))⟩, ⟨.some 34, .none, .mv (.t 33)⟩, ⟨.some 35, .some (34, true), .fa 1 (.t 1)⟩, ⟨.some 36, .some (34, true), .ld .none (.t 35)⟩, ⟨.some 37, .some (34, true), .lenL (.t 36)⟩, ⟨.some 38, .some (34, true), .fa 2 (.t 1)⟩, ⟨.some 39, .some (34, true), .ld .none (.t 38)⟩, ⟨.some 40, .some (34, true), .lenL (.t 39)⟩, ⟨.some 41, .some (34, true), .bin .eql (.t 37) (.t 40)⟩, ⟨.some 42, .none, .pick (.t 34) (.t 41) (.c (.bool false))⟩, ⟨.some 43, .none, .mv (.t 42)⟩, ⟨.some 44, .some (43, true), .fa 2 (.t 1)⟩, ⟨.some 45, .some (43, true), .ld .none (.t 44)⟩, ⟨.some 46, .some (43, true), .call 51 .pure [.t 45, .f 52]⟩, ⟨.some 47, .some (43, true), .un .not (.t 46)⟩, ⟨.some 48, .none, .pick (.t 43) (.t 47) (.c (.bool false))⟩, ⟨.some 2, .none, .mv (.t 48)⟩]) .ret))))
def d28 : Def := (.code 1 [.tmp 2] (.seq (.rg false [⟨.some 1, .none, .box (.t 0)⟩, ⟨.some 2, .none, .mv (.c (.bool false))⟩]) (.seq (.rg false [⟨.some 3, .none, .ld (.some 3) (.t 1)⟩, ⟨.some 4, .none, .call 29 .pure [.t 3]⟩, ⟨.some 5, .none, .un .not (.t 4)⟩, ⟨.some 2, .none, .mv (.t 5)⟩]) .ret)))
def d48 : Def := (.code 2 [.tmp 4] (.seq (.rg false [⟨.some 4, .none, .mv (.c (.int .i64 0))⟩]) (.seq (.seq (.rg false [⟨.some 6, .none, .mv (.t 0)⟩, ⟨.some 7, .none, .lenL (.t 6)⟩, ⟨.some 8, .none, .mv (.c (.int .i64 0))⟩]) (.block 0 (.loop (.seq (.rg false [⟨.some 9, .none, .bin .lss (.t 8) (.t 7)⟩]) (.seq (.cond (.t 9) .skip (.exit 0)) (.seq (.block 1 (.seq (.rg false [⟨.some 10, .none, .mv (.t 8)⟩, ⟨.some 5, .none, .mv (.t 10)⟩]) (.seq (.rg false [⟨.some 11, .none, .mv (.t 1)⟩, ⟨.some 12, .none, .mv (.t 0)⟩, ⟨.some 13, .none, .mv (.t 5)⟩, ⟨.some 14, .none, .ia 3 (.t 12) (.t 13)⟩, ⟨.some 15, .none, .ld (.some 3) (.t 14)⟩, ⟨.some 16, .none, .callv (.t 11) .pure [.t 15]⟩]) (.cond (.t 16) (.seq (.rg false [⟨.some 17, .none, .mv (.t 5)⟩, ⟨.some 4, .none, .mv (.t 17)⟩]) .ret) .skip)))) (.rg false [⟨.some 18, .none, .bin .add (.t 8) (.c (.int .i64 1))⟩, ⟨.some 8, .none, .mv (.t 18)⟩]))))))) (.seq (.rg false [⟨.some 4, .none, .mv (.c (.int .i64 (-1)))⟩]) .ret))))
def d27 : Def := (.code 2 [.tmp 4] (.seq (.rg false [⟨.some 4, .none, .mv (.c (.bool false))⟩]) (.seq (.rg false [⟨.some 5, .none, .mv (.t 0)⟩, ⟨.some 6, .none, .mv (.t 1)⟩, ⟨.some 7, .none, .call 48 .pure [.t 5, .t 6]⟩, ⟨.some 8, .none, .bin .geq (.t 7) (.c (.int .i64 0))⟩, ⟨.some 4, .none, .mv (.t 8)⟩]) .ret)))
def d9 : Def := (.code 1 [.tmp 2] (.seq (.rg false [⟨.some 2, .none, .mv (.c (.bool false))⟩]) (.seq (.rg false [⟨.some 3, .none, .mv (.t 0)⟩, ⟨.some 4, .none, .lenL (.t 3)⟩, ⟨.some 5, .none, .bin .leq (.t 4) (.c (.int .i64 64))⟩, ⟨.some 6, .none, .mv (.t 5)⟩, ⟨.some 7, .some (6, true), .mv (.t 0)⟩, ⟨.some 8, .some (6, true), .call 27 .pure [.t 7, .f 28]⟩, ⟨.some 9, .some (6, true), .un .not (.t 8)⟩, ⟨.some 10, .none, .pick (.t 6) (.t 9) (.c (.bool false))⟩, ⟨.some 2, .none, .mv (.t 10)⟩]) .ret)))
def lf0 : List (Nat × Def) := [(68, d68), (51, d51), (29, d29), (28, d28), (48, d48), (27, d27), (9, d9)]
section
variable {env : Nat → Option Def} {fr : Fr} {σ : St} {K : Fr → St → Prop}
theorem a51e (F : Has lf0 env) {k : Nat} : AV env 51 [.sl [], .fn k [] []] = some (.sc (.bool false)) := by
  have h68 : AV env 68 [.sl [], .fn k [] []] = some (.sc (.int .i64 (-1))) := a85g (xs := []) (p := fun _ => false) (F (68, d68) (by simp [lf0])) (by simp) (fun i e h => by simp at h) (fun i e h => by simp at h) (fun i e h => by simp at h)
  refine AV_wp (F (51, d51) (by simp [lf0])) rfl ?_
  (repeat' first
    | refine w_seq ?_ | refine w_rg ?_ | refine wo_nil ?_ | refine g_skU ?_ | refine g_skT ?_ | refine g_skF ?_
    | ((first | apply s_plain | apply s_void | apply s_guard | apply g_goT | apply g_goF); · simp only [go_sem, Nat.reduceEqDiff, Nat.reduceAdd, Nat.reduceLeDiff, h68]; (first | done | rfl))
    | ((first | apply g_T | apply g_F | apply g_gT | apply g_gF); · intro q1_; (first | intro q2_ | have q2_ := q1_); simp only [go_sem, Nat.reduceEqDiff, Nat.reduceAdd, Nat.reduceLeDiff, h68, q1_, q2_]; (first | done | rfl))
    | (apply w_condX; · simp only [go_sem, Nat.reduceEqDiff, Nat.reduceAdd, Nat.reduceLeDiff, h68]; (first | done | rfl)); (first | refine wcd_T ?_ | refine wcd_F ?_)
    | refine w_skip ?_ | refine w_exit ?_ | refine w_ret ?_
    | fail
    )
  exact ⟨.inr rfl, by simp only [go_sem, Nat.reduceEqDiff, Nat.reduceAdd, Nat.reduceLeDiff, retOf, resOf]; rfl⟩
def bare (s : ByteArray) : PV := .agg [.sc (.string s), .sl [], .sl []]
theorem a29e (H : Has law env) (F : Has lf0 env) {s : ByteArray} (hs : Small s) : AV env 29 [bare s] = some (.sc (.bool (wordB s))) := by
  have h49 := a49 H hs
  have h51 := a51e F (k := 52)
  refine AV_wp (F (29, d29) (by simp [lf0])) rfl ?_
  unfold bare
  (repeat' first
    | refine w_seq ?_ | refine w_rg ?_ | refine wo_nil ?_ | refine g_skU ?_ | refine g_skT ?_ | refine g_skF ?_
    | ((first | apply s_plain | apply s_void | apply s_guard | apply g_goT | apply g_goF); · simp only [go_sem, Nat.reduceEqDiff, Nat.reduceAdd, Nat.reduceLeDiff]; (first | done | rfl))
    | ((first | apply g_T | apply g_F | apply g_gT | apply g_gF); · intro q1_; (first | intro q2_ | have q2_ := q1_); simp only [go_sem, Nat.reduceEqDiff, Nat.reduceAdd, Nat.reduceLeDiff, q1_, q2_]; (first | done | rfl))
    | fail
    )
  refine w_block (w_range 0 (by omega) (fun i fr σ => fr 1 = .bx 2000001 0 3 0 0 ∧ σ.m 2000001 0 = some ⟨3, [.agg [.sc (.string s), .sl [], .sl []]], true, true⟩) (by decide) ?_ ?_ ?_ _ _ ?_ ?_ ?_)
  · rintro i fr σ v ⟨h1, h2⟩
    refine ⟨⟨?_, h2⟩, ⟨?_, h2⟩, ⟨?_, h2⟩⟩ <;> simp only [go_sem, Nat.reduceEqDiff, Nat.reduceAdd, Nat.reduceLeDiff, h1]
  · rintro i fr σ hi
    omega
  · rintro fr σ ⟨h1, h2⟩
    simp only [if_true]
    (repeat' first
    | refine w_seq ?_ | refine w_rg ?_ | refine wo_nil ?_ | refine g_skU ?_ | refine g_skT ?_ | refine g_skF ?_
    | ((first | apply s_plain | apply s_void | apply s_guard | apply g_goT | apply g_goF); · simp only [go_sem, Nat.reduceEqDiff, Nat.reduceAdd, Nat.reduceLeDiff, h1, h2, h49, h51]; (first | done | rfl))
    | ((first | apply g_T | apply g_F | apply g_gT | apply g_gF); · intro q1_; (first | intro q2_ | have q2_ := q1_); simp only [go_sem, Nat.reduceEqDiff, Nat.reduceAdd, Nat.reduceLeDiff, h1, h2, h49, h51, q1_, q2_]; (first | done | rfl))
    | (apply w_condX; · simp only [go_sem, Nat.reduceEqDiff, Nat.reduceAdd, Nat.reduceLeDiff, h1, h2, h49, h51]; (first | done | rfl)); (first | refine wcd_T ?_ | refine wcd_F ?_)
    | refine w_skip ?_ | refine w_exit ?_ | refine w_ret ?_
    | fail
    )
    refine ⟨.inr rfl, ?_⟩
    simp only [go_sem, Nat.reduceEqDiff, Nat.reduceAdd, Nat.reduceLeDiff, retOf, resOf]
    cases wordB s <;> rfl
  · exact ⟨by simp only [go_sem, Nat.reduceEqDiff, Nat.reduceAdd, Nat.reduceLeDiff], by simp only [go_sem, Nat.reduceEqDiff, Nat.reduceAdd, Nat.reduceLeDiff]⟩
  · simp only [go_sem, Nat.reduceEqDiff, Nat.reduceAdd, Nat.reduceLeDiff]
  · simp only [go_sem, Nat.reduceEqDiff, Nat.reduceAdd, Nat.reduceLeDiff]
    try rfl
theorem a28e (H : Has law env) (F : Has lf0 env) {s : ByteArray} (hs : Small s) : AV env 28 [bare s] = some (.sc (.bool (!wordB s))) := by
  have h29 := a29e H F hs
  refine AV_wp (F (28, d28) (by simp [lf0])) rfl ?_
  unfold bare at h29 ⊢
  (repeat' first
    | refine w_seq ?_ | refine w_rg ?_ | refine wo_nil ?_ | refine g_skU ?_ | refine g_skT ?_ | refine g_skF ?_
    | ((first | apply s_plain | apply s_void | apply s_guard | apply g_goT | apply g_goF); · simp only [go_sem, Nat.reduceEqDiff, Nat.reduceAdd, Nat.reduceLeDiff, h29]; (first | done | rfl))
    | ((first | apply g_T | apply g_F | apply g_gT | apply g_gF); · intro q1_; (first | intro q2_ | have q2_ := q1_); simp only [go_sem, Nat.reduceEqDiff, Nat.reduceAdd, Nat.reduceLeDiff, h29, q1_, q2_]; (first | done | rfl))
    | (apply w_condX; · simp only [go_sem, Nat.reduceEqDiff, Nat.reduceAdd, Nat.reduceLeDiff, h29]; (first | done | rfl)); (first | refine wcd_T ?_ | refine wcd_F ?_)
    | refine w_skip ?_ | refine w_exit ?_ | refine w_ret ?_
    | fail
    )
  exact ⟨.inr rfl, by simp only [go_sem, Nat.reduceEqDiff, Nat.reduceAdd, Nat.reduceLeDiff, retOf, resOf]⟩
theorem a48g (F : Has lf0 env) {xs : List PV} {k : Nat} {a b : List PV} {p : Nat → Bool} (hn : xs.length ≤ 9223372036854775807) (h1 : ∀ (i : Nat) e, xs[i]? = some e → ∃ c0 c1 c2, e = .agg [c0, c1, c2])
    (hz : ∀ (i : Nat) e, xs[i]? = some e → ∀ σ, (a ++ [e] ++ b).mapM (fz σ 12) = some (a ++ [e] ++ b)) (hp : ∀ (i : Nat) e, xs[i]? = some e → AV env k (a ++ [e] ++ b) = some (.sc (.bool (p i)))) :
    AV env 48 [.sl xs, .fn k a b] = some (.sc (.int .i64 (found p xs.length))) := by
  refine AV_wp (F (48, d48) (by simp [lf0])) rfl ?_
  (repeat' first
    | refine w_seq ?_ | refine w_rg ?_ | refine wo_nil ?_ | refine g_skU ?_ | refine g_skT ?_ | refine g_skF ?_
    | ((first | apply s_plain | apply s_void | apply s_guard | apply g_goT | apply g_goF); · simp only [go_sem, Nat.reduceEqDiff, Nat.reduceAdd, Nat.reduceLeDiff]; (first | done | rfl))
    | ((first | apply g_T | apply g_F | apply g_gT | apply g_gF); · intro q1_; (first | intro q2_ | have q2_ := q1_); simp only [go_sem, Nat.reduceEqDiff, Nat.reduceAdd, Nat.reduceLeDiff, q1_, q2_]; (first | done | rfl))
    | fail
    )
  refine w_block (w_range xs.length hn (fun i fr σ => fr 0 = .sl xs ∧ fr 1 = .fn k a b ∧ ∀ j, j < i → p j = false) (by decide) ?_ ?_ ?_ _ _ ?_ ?_ ?_)
  · rintro i fr σ v ⟨h0, h1, h2⟩
    refine ⟨⟨?_, ?_, h2⟩, ⟨?_, ?_, h2⟩, ⟨?_, ?_, h2⟩⟩ <;> simp only [go_sem, Nat.reduceEqDiff, Nat.reduceAdd, Nat.reduceLeDiff, h0, h1]
  · rintro i fr σ hi ⟨h0, h2, h3⟩ hti htn
    have hx := List.getElem?_eq_getElem hi
    obtain ⟨c0, c1, c2, hc⟩ := h1 i _ hx
    have hz' := hz i _ hx
    have hp' := hp i _ hx
    rw [hc] at hx hz' hp'
    have e1 : (0 : Int) ≤ (i : Int) ∧ (i : Int) < (xs.length : Int) := by omega
    refine w_block ?_
    simp only [List.append_assoc, List.cons_append, List.nil_append] at hz' hp'
    (repeat' first
    | refine w_seq ?_ | refine w_rg ?_ | refine wo_nil ?_ | refine g_skU ?_ | refine g_skT ?_ | refine g_skF ?_
    | ((first | apply s_plain | apply s_void | apply s_guard | apply g_goT | apply g_goF); · simp only [go_sem, Nat.reduceEqDiff, Nat.reduceAdd, Nat.reduceLeDiff, h0, h2, hti, e1, Int.toNat_natCast, hx, List.append_assoc, hz', hp']; (first | done | rfl))
    | ((first | apply g_T | apply g_F | apply g_gT | apply g_gF); · intro q1_; (first | intro q2_ | have q2_ := q1_); simp only [go_sem, Nat.reduceEqDiff, Nat.reduceAdd, Nat.reduceLeDiff, h0, h2, hti, e1, Int.toNat_natCast, hx, List.append_assoc, hz', hp', q1_, q2_]; (first | done | rfl))
    | fail
    )
    cases hpi : p i with
    | true =>
      (repeat' first
    | refine w_seq ?_ | refine w_rg ?_ | refine wo_nil ?_ | refine g_skU ?_ | refine g_skT ?_ | refine g_skF ?_
    | ((first | apply s_plain | apply s_void | apply s_guard | apply g_goT | apply g_goF); · simp only [go_sem, Nat.reduceEqDiff, Nat.reduceAdd, Nat.reduceLeDiff]; (first | done | rfl))
    | ((first | apply g_T | apply g_F | apply g_gT | apply g_gF); · intro q1_; (first | intro q2_ | have q2_ := q1_); simp only [go_sem, Nat.reduceEqDiff, Nat.reduceAdd, Nat.reduceLeDiff, q1_, q2_]; (first | done | rfl))
    | (apply w_condX; · simp only [go_sem, Nat.reduceEqDiff, Nat.reduceAdd, Nat.reduceLeDiff]; (first | done | rfl)); (first | refine wcd_T ?_ | refine wcd_F ?_)
    | refine w_skip ?_ | refine w_exit ?_ | refine w_ret ?_
    | fail
    )
      exact ⟨.inr rfl, by simp only [go_sem, Nat.reduceEqDiff, Nat.reduceAdd, Nat.reduceLeDiff, retOf, resOf, found_hit hi h3 hpi]⟩
    | false =>
      (repeat' first
    | refine w_seq ?_ | refine w_rg ?_ | refine wo_nil ?_ | refine g_skU ?_ | refine g_skT ?_ | refine g_skF ?_
    | ((first | apply s_plain | apply s_void | apply s_guard | apply g_goT | apply g_goF); · simp only [go_sem, Nat.reduceEqDiff, Nat.reduceAdd, Nat.reduceLeDiff]; (first | done | rfl))
    | ((first | apply g_T | apply g_F | apply g_gT | apply g_gF); · intro q1_; (first | intro q2_ | have q2_ := q1_); simp only [go_sem, Nat.reduceEqDiff, Nat.reduceAdd, Nat.reduceLeDiff, q1_, q2_]; (first | done | rfl))
    | (apply w_condX; · simp only [go_sem, Nat.reduceEqDiff, Nat.reduceAdd, Nat.reduceLeDiff]; (first | done | rfl)); (first | refine wcd_T ?_ | refine wcd_F ?_)
    | refine w_skip ?_ | refine w_exit ?_ | refine w_ret ?_
    | fail
    )
      refine ⟨⟨?_, ?_, fun j hj => ?_⟩, ?_, ?_⟩
      · simp only [go_sem, Nat.reduceEqDiff, Nat.reduceAdd, Nat.reduceLeDiff, h0]
      · simp only [go_sem, Nat.reduceEqDiff, Nat.reduceAdd, Nat.reduceLeDiff, h2]
      · by_cases hji : j = i
        · rw [hji]; exact hpi
        · exact h3 j (by omega)
      · simp only [go_sem, Nat.reduceEqDiff, Nat.reduceAdd, Nat.reduceLeDiff, hti]
      · simp only [go_sem, Nat.reduceEqDiff, Nat.reduceAdd, Nat.reduceLeDiff, htn]
  · rintro fr σ ⟨h0, h2, h3⟩
    simp only [if_true]
    (repeat' first
    | refine w_seq ?_ | refine w_rg ?_ | refine wo_nil ?_ | refine g_skU ?_ | refine g_skT ?_ | refine g_skF ?_
    | ((first | apply s_plain | apply s_void | apply s_guard | apply g_goT | apply g_goF); · simp only [go_sem, Nat.reduceEqDiff, Nat.reduceAdd, Nat.reduceLeDiff]; (first | done | rfl))
    | ((first | apply g_T | apply g_F | apply g_gT | apply g_gF); · intro q1_; (first | intro q2_ | have q2_ := q1_); simp only [go_sem, Nat.reduceEqDiff, Nat.reduceAdd, Nat.reduceLeDiff, q1_, q2_]; (first | done | rfl))
    | (apply w_condX; · simp only [go_sem, Nat.reduceEqDiff, Nat.reduceAdd, Nat.reduceLeDiff]; (first | done | rfl)); (first | refine wcd_T ?_ | refine wcd_F ?_)
    | refine w_skip ?_ | refine w_exit ?_ | refine w_ret ?_
    | fail
    )
    exact ⟨.inr rfl, by simp only [go_sem, Nat.reduceEqDiff, Nat.reduceAdd, Nat.reduceLeDiff, retOf, resOf, found_none h3]⟩
  · refine ⟨?_, ?_, fun j hj => by omega⟩ <;> simp only [go_sem, Nat.reduceEqDiff, Nat.reduceAdd, Nat.reduceLeDiff]
  · simp only [go_sem, Nat.reduceEqDiff, Nat.reduceAdd, Nat.reduceLeDiff]
  · simp only [go_sem, Nat.reduceEqDiff, Nat.reduceAdd, Nat.reduceLeDiff]
theorem a9e (H : Has law env) (F : Has lf0 env) {s : ByteArray} (hs : Small s) : AV env 9 [.sl [bare s]] = some (.sc (.bool (wordB s))) := by
  have h28 := a28e H F hs
  have hf : found (fun _ => !wordB s) 1 = if wordB s = true then -1 else 0 := by
    cases hw : wordB s <;> simp [found, List.range_succ]
  have h48 : AV env 48 [.sl [bare s], .fn 28 [] []] = some (.sc (.int .i64 (if wordB s = true then -1 else 0))) := by
    rw [← hf]
    refine a48g F (xs := [bare s]) (k := 28) (a := []) (b := []) (by simp) (fun i e h => ?_) (fun i e h σ => ?_) (fun i e h => ?_)
    all_goals
      have hi : i = 0 := by have := (List.getElem?_eq_some_iff.1 h).1; simp at this; exact this
      subst hi
      simp at h
      subst h
    · exact ⟨_, _, _, rfl⟩
    · rfl
    · exact h28
  have h27 : AV env 27 [.sl [bare s], .fn 28 [] []] = some (.sc (.bool (!wordB s))) := by
    refine AV_wp (F (27, d27) (by simp [lf0])) rfl ?_
    (repeat' first
    | refine w_seq ?_ | refine w_rg ?_ | refine wo_nil ?_ | refine g_skU ?_ | refine g_skT ?_ | refine g_skF ?_
    | ((first | apply s_plain | apply s_void | apply s_guard | apply g_goT | apply g_goF); · simp only [go_sem, Nat.reduceEqDiff, Nat.reduceAdd, Nat.reduceLeDiff, h48]; (first | done | rfl))
    | ((first | apply g_T | apply g_F | apply g_gT | apply g_gF); · intro q1_; (first | intro q2_ | have q2_ := q1_); simp only [go_sem, Nat.reduceEqDiff, Nat.reduceAdd, Nat.reduceLeDiff, h48, q1_, q2_]; (first | done | rfl))
    | (apply w_condX; · simp only [go_sem, Nat.reduceEqDiff, Nat.reduceAdd, Nat.reduceLeDiff, h48]; (first | done | rfl)); (first | refine wcd_T ?_ | refine wcd_F ?_)
    | refine w_skip ?_ | refine w_exit ?_ | refine w_ret ?_
    | fail
    )
    refine ⟨.inr rfl, ?_⟩
    simp only [go_sem, Nat.reduceEqDiff, Nat.reduceAdd, Nat.reduceLeDiff, retOf, resOf]
    cases wordB s <;> rfl
  refine AV_wp (F (9, d9) (by simp [lf0])) rfl ?_
  (repeat' first
    | refine w_seq ?_ | refine w_rg ?_ | refine wo_nil ?_ | refine g_skU ?_ | refine g_skT ?_ | refine g_skF ?_
    | ((first | apply s_plain | apply s_void | apply s_guard | apply g_goT | apply g_goF); · simp only [go_sem, Nat.reduceEqDiff, Nat.reduceAdd, Nat.reduceLeDiff, h27]; (first | done | rfl))
    | ((first | apply g_T | apply g_F | apply g_gT | apply g_gF); · intro q1_; (first | intro q2_ | have q2_ := q1_); simp only [go_sem, Nat.reduceEqDiff, Nat.reduceAdd, Nat.reduceLeDiff, h27, q1_, q2_]; (first | done | rfl))
    | (apply w_condX; · simp only [go_sem, Nat.reduceEqDiff, Nat.reduceAdd, Nat.reduceLeDiff, h27]; (first | done | rfl)); (first | refine wcd_T ?_ | refine wcd_F ?_)
    | refine w_skip ?_ | refine w_exit ?_ | refine w_ret ?_
    | fail
    )
  refine ⟨.inr rfl, ?_⟩
  simp only [go_sem, Nat.reduceEqDiff, Nat.reduceAdd, Nat.reduceLeDiff, retOf, resOf]
  cases wordB s <;> rfl
end

def d105 : Def := (.code 1 [.tmp 2] (.seq (.rg false [⟨.some 1, .none, .box (.t 0)⟩, ⟨.some 2, .none, .mv (.c (.bool false))⟩]) (.seq (.rg false [⟨.some 5, .none, .fa 0 (.t 1)⟩, ⟨.some 6, .none, .ld .none (.t 5)⟩, ⟨.some 7, .none, .call 111 .pure [.t 6]⟩, ⟨.some 8, .none, .mv (.t 7)⟩, ⟨.some 9, .some (8, true), .fa 1 (.t 1)⟩, ⟨.some 10, .some (8, true), .ld .none (.t 9)⟩, ⟨.some 11, .some (8, true), .call 111 .pure [.t 10]⟩, ⟨.some 12, .none, .pick (.t 8) (.t 11) (.c (.bool false))⟩, ⟨.some 13, .none, .mv (.t 12)⟩, ⟨.some 14, .some (13, true), .fa 2 (.t 1)⟩, ⟨.some 15, .some (13, true), .ld .none (.t 14)⟩, ⟨.some 16, .some (13, true), .bin .geq (.t 15) (.c (.int .i64 1))⟩, ⟨.some 17, .none, .pick (.t 13) (.t 16) (.c (.bool false))⟩, ⟨.some 18, .none, .mv (.t 17)⟩, ⟨.some 19, .some (18, true), .fa 2 (.t 1)⟩, ⟨.some 20, .some (18, true), .ld .none (.t 19)⟩, ⟨.some 21, .some (18, true), .bin .leq (.t 20) (.c (.int .i64 5))⟩, ⟨.some 22, .none, .pick (.t 18) (.t 21) (.c (.bool false))⟩, ⟨.some 3, .none, .mv (.t 22)⟩]) (.seq (.rg false [⟨.some 23, .none, .fa 4 (.t 1)⟩, ⟨.some 24, .none, .ld .none (.t 23)⟩, ⟨.some 25, .none, .call 112 .pure [.t 24]⟩, ⟨.some 26, .none, .mv (.t 25)⟩, ⟨.some 27, .some (26, true), .fa 5 (.t 1)⟩, ⟨.some 28, .some (26, true), .ld .none (.t 27)⟩, ⟨.some 29, .some (26, true), .call 112 .pure [.t 28]⟩, ⟨.some 30, .none, .pick (.t 26) (.t 29) (.c (.bool false))⟩, ⟨.some 31, .none, .mv (.t 30)⟩, ⟨.some 32, .some (31, true), .fa 6 (.t 1)⟩, ⟨.some 33, .some (31, true), .ld .none (.t 32)⟩, ⟨.some 34, .some (31, true), .bin .geq (.t 33) (.c (.int .i64 1))⟩, ⟨.some 35, .none, .pick (.t 31) (.t 34) (.c (.bool false))⟩, ⟨.some 36, .none, .mv (.t 35)⟩, ⟨.some 37, .some (36, true), .fa 6 (.t 1)⟩, ⟨.some 38, .some (36, true), .ld .none (.t 37)⟩, ⟨.some 39, .some (36, true), .bin .leq (.t 38) (.c (.int .i64 10))⟩, ⟨.some 40, .none, .pick (.t 36) (.t 39) (.c (.bool false))⟩, ⟨.some 4, .none, .mv (.t 40)⟩]) (.seq (.rg false [⟨.some 41, .none, .mv (.t 3)⟩, ⟨.some 42, .none, .mv (.t 41)⟩, ⟨.some 43, .some (42, true), .mv (.t 4)⟩, ⟨.some 44, .none, .pick (.t 42) (.t 43) (.c (.bool false))⟩, ⟨.some 45, .none, .mv (.t 44)⟩, ⟨.some 46, .some (45, true), .fa 3 (.t 1)⟩, ⟨.some 47, .some (45, true), .ld .none (.t 46)⟩, ⟨.some 48, .some (45, true), .bin .geq (.t 47) (.c (.int .i64 (-1099511627776)))⟩, ⟨.some 49, .none, .pick (.t 45) (.t 48) (.c (.bool false))⟩, ⟨.some 50, .none, .mv (.t 49)⟩, ⟨.some 51, .some (50, true), .fa 3 (.t 1)⟩, ⟨.some 52, .some (50, true), .ld .none (.t 51)⟩, ⟨.some 53, .some (50, true), .bin .leq (.t 52) (.c (.int .i64 1099511627776))⟩, ⟨.some 54, .none, .pick (.t 50) (.t 53) (.c (.bool false))⟩, ⟨.some 55, .none, .mv (.t 54)⟩, ⟨.some 56, .some (55, true), .fa 7 (.t 1)⟩, ⟨.some 57, .some (55, true), .ld .none (.t 56)⟩, ⟨.some 58, .some (55, true), .lenL (.t 57)⟩, ⟨.some 59, .some (55, true), .bin .leq (.t 58) (.c (.int .i64 4))⟩, ⟨.some 60, .none, .pick (.t 55) (.t 59) (.c (.bool false))⟩, ⟨.some 61, .none, .mv (.t 60)⟩, ⟨.some 62, .some (61, true), .fa 7 (.t 1)⟩, ⟨.some 63, .some (61, true), .ld .none (.t 62)⟩, ⟨.some 64, .some (61, true), .call 113 .pure [.t 63]⟩, ⟨.some 65, .none, .pick (.t 61) (.t 64) (.c (.bool false))⟩, ⟨.some 66, .none, .mv (.t 65)⟩, ⟨.some 67, .some (66, true), .fa 7 (.t 1)⟩, ⟨.some 68, .some (66, true), .ld .none (.t 67)⟩, ⟨.some 69, .some (66, true), .call 114 .pure [.t 68, .c (.string ⟨#[97, 108, 101, 114, 116]⟩)]⟩, ⟨.some 70, .some (66, true), .bin .eql (.t 69) (.c (.string ⟨#[]⟩))⟩, ⟨.some 71, .none, .pick (.t 66) (.t 70) (.c (.bool false))⟩, ⟨.some 2, .none, .mv (.t 71)⟩]) .ret)))))
def d115 : Def := (.code 0 [.cell 0 (.some 12)] (.seq (.rg false [⟨.some 0, .none, .box (.c (.agg #[.string ⟨#[]⟩, .nilFunc, .string ⟨#[]⟩, .nilFunc, .string ⟨#[]⟩, .nilFunc, .string ⟨#[]⟩, .nilFunc, .string ⟨#[]⟩, .nilFunc, .string ⟨#[]⟩, .nilFunc]))⟩]) (.seq (.rg false [⟨.some 1, .none, .build (.agg #[.string ⟨#[]⟩, .nilFunc]) [(0, (1, .c (.string ⟨#[62]⟩))), (1, (1, .f 123))]⟩, ⟨.some 2, .none, .build (.agg #[.string ⟨#[]⟩, .nilFunc]) [(0, (1, .c (.string ⟨#[62, 61]⟩))), (1, (1, .f 124))]⟩, ⟨.some 3, .none, .build (.agg #[.string ⟨#[]⟩, .nilFunc]) [(0, (1, .c (.string ⟨#[60]⟩))), (1, (1, .f 125))]⟩, ⟨.some 4, .none, .build (.agg #[.string ⟨#[]⟩, .nilFunc]) [(0, (1, .c (.string ⟨#[60, 61]⟩))), (1, (1, .f 126))]⟩, ⟨.some 5, .none, .build (.agg #[.string ⟨#[]⟩, .nilFunc]) [(0, (1, .c (.string ⟨#[61, 61]⟩))), (1, (1, .f 127))]⟩, ⟨.some 6, .none, .build (.agg #[.string ⟨#[]⟩, .nilFunc, .string ⟨#[]⟩, .nilFunc, .string ⟨#[]⟩, .nilFunc, .string ⟨#[]⟩, .nilFunc, .string ⟨#[]⟩, .nilFunc, .string ⟨#[]⟩, .nilFunc]) [(2, (2, .t 1)), (4, (2, .t 2)), (6, (2, .t 3)), (8, (2, .t 4)), (10, (2, .t 5))]⟩, ⟨.none, .none, .st 12 (.t 0) (.t 6)⟩]) .ret)))
def d123 : Def := (.code 2 [.tmp 4] (.seq (.rg false [⟨.some 4, .none, .mv (.c (.bool false))⟩]) (.seq (.rg false [⟨.some 5, .none, .mv (.t 0)⟩, ⟨.some 6, .none, .mv (.t 1)⟩, ⟨.some 7, .none, .bin .gtr (.t 5) (.t 6)⟩, ⟨.some 4, .none, .mv (.t 7)⟩]) .ret)))
def d124 : Def := (.code 2 [.tmp 4] (.seq (.rg false [⟨.some 4, .none, .mv (.c (.bool false))⟩]) (.seq (.rg false [⟨.some 5, .none, .mv (.t 0)⟩, ⟨.some 6, .none, .mv (.t 1)⟩, ⟨.some 7, .none, .bin .geq (.t 5) (.t 6)⟩, ⟨.some 4, .none, .mv (.t 7)⟩]) .ret)))
def d125 : Def := (.code 2 [.tmp 4] (.seq (.rg false [⟨.some 4, .none, .mv (.c (.bool false))⟩]) (.seq (.rg false [⟨.some 5, .none, .mv (.t 0)⟩, ⟨.some 6, .none, .mv (.t 1)⟩, ⟨.some 7, .none, .bin .lss (.t 5) (.t 6)⟩, ⟨.some 4, .none, .mv (.t 7)⟩]) .ret)))
def d126 : Def := (.code 2 [.tmp 4] (.seq (.rg false [⟨.some 4, .none, .mv (.c (.bool false))⟩]) (.seq (.rg false [⟨.some 5, .none, .mv (.t 0)⟩, ⟨.some 6, .none, .mv (.t 1)⟩, ⟨.some 7, .none, .bin .leq (.t 5) (.t 6)⟩, ⟨.some 4, .none, .mv (.t 7)⟩]) .ret)))
def d127 : Def := (.code 2 [.tmp 4] (.seq (.rg false [⟨.some 4, .none, .mv (.c (.bool false))⟩]) (.seq (.rg false [⟨.some 5, .none, .mv (.t 0)⟩, ⟨.some 6, .none, .mv (.t 1)⟩, ⟨.some 7, .none, .bin .eql (.t 5) (.t 6)⟩, ⟨.some 4, .none, .mv (.t 7)⟩]) .ret)))
def d107 : Def := (.code 2 [.tmp 4] (.seq (.rg false [⟨.some 2, .none, .box (.t 0)⟩, ⟨.some 4, .none, .mv (.c (.bool false))⟩]) (.seq (.rg true [⟨.some 5, .none, .ld (.some 8) (.t 2)⟩, ⟨.some 6, .none, .call 105 .strict [.t 5]⟩, ⟨.some 7, .none, .mv (.t 6)⟩, ⟨.some 8, .some (7, true), .call 115 .strict []⟩, ⟨.some 9, .some (7, true), .fa 2 (.t 2)⟩, ⟨.some 10, .some (7, true), .ld .none (.t 9)⟩, ⟨.some 11, .some (7, true), .ixa 2 6 (.some 2) (.t 8) (.t 10)⟩, ⟨.some 12, .some (7, true), .fld 1 .none (.t 11)⟩, ⟨.some 13, .some (7, true), .mv (.t 1)⟩, ⟨.some 14, .some (7, true), .fa 3 (.t 2)⟩, ⟨.some 15, .some (7, true), .ld .none (.t 14)⟩, ⟨.some 16, .some (7, true), .callv (.t 12) .strict [.t 13, .t 15]⟩, ⟨.some 17, .none, .pick (.t 7) (.t 16) (.c (.bool false))⟩, ⟨.some 4, .none, .mv (.t 17)⟩]) .ret)))
def lg : List (Nat × Def) := [(105, d105), (115, d115), (123, d123), (124, d124), (125, d125), (126, d126), (127, d127), (107, d107)]
structure Rule where
  name : ByteArray
  metric : ByteArray
  how : Int
  limit : Int
  for_ : Int
  keep : Int
  tries : Int
  labels : List Lab
def int (n : Int) : PV := .sc (.int .i64 n)
def rule (r : Rule) : PV := .agg [.sc (.string r.name), .sc (.string r.metric), .sc (.int .i64 r.how), .sc (.int .i64 r.limit), .sc (.int .i64 r.for_), .sc (.int .i64 r.keep), .sc (.int .i64 r.tries), .sl (labs r.labels)]
structure Rule.Fits (r : Rule) : Prop where
  n : Small r.name
  m : Small r.metric
  l : r.labels.length ≤ 9223372036854775807
  s : Smalls r.labels
section
variable {env : Nat → Option Def} {fr : Fr} {σ : St} {K : Fr → St → Prop}
theorem a127 (I : Has lg env) (v m : Int) : AV env 127 [.sc (.int .i64 v), .sc (.int .i64 m)] = some (.sc (.bool (v == m))) := by
  refine AV_wp (I (127, d127) (by simp [lg])) rfl ?_
  (repeat' first
    | refine w_seq ?_ | refine w_rg ?_ | refine wo_nil ?_ | refine g_skU ?_ | refine g_skT ?_ | refine g_skF ?_
    | ((first | apply s_plain | apply s_void | apply s_guard | apply g_goT | apply g_goF); · simp only [go_sem, Nat.reduceEqDiff, Nat.reduceAdd, Nat.reduceLeDiff]; (first | done | rfl))
    | ((first | apply g_T | apply g_F | apply g_gT | apply g_gF); · intro q1_; (first | intro q2_ | have q2_ := q1_); simp only [go_sem, Nat.reduceEqDiff, Nat.reduceAdd, Nat.reduceLeDiff, q1_, q2_]; (first | done | rfl))
    | (apply w_condX; · simp only [go_sem, Nat.reduceEqDiff, Nat.reduceAdd, Nat.reduceLeDiff]; (first | done | rfl)); (first | refine wcd_T ?_ | refine wcd_F ?_)
    | refine w_skip ?_ | refine w_exit ?_ | refine w_ret ?_
    | fail
    )
  exact ⟨.inr rfl, by simp only [go_sem, Nat.reduceEqDiff, Nat.reduceAdd, Nat.reduceLeDiff, retOf, resOf]⟩
end

section
variable {env : Nat → Option Def} {fr : Fr} {σ σ' : St} {K : Fr → St → Prop} {Q : X → Fr → St → Prop}
def Gat (σ : St) (os : List Nat) (es : Nat) (w : Bool) (p : PV) (xs : List PV) : Prop := (p = .em ∧ xs = []) ∨ ∃ o g wr, o ∈ os ∧ p = .ob o g es 0 xs.length ∧ σ.m o g = some ⟨es, xs, true, wr⟩ ∧ g < σ.c o ∧ xs ≠ [] ∧ (w = true → wr = true)
theorem Gat.em {os : List Nat} {es : Nat} {w : Bool} : Gat σ os es w .em [] := .inl ⟨rfl, rfl⟩
theorem Gat.new {os : List Nat} {es : Nat} {w : Bool} {p : PV} {xs : List PV} (h : Gat σ os es w p xs) {d : Nat} (y : Obj) : Gat (σ.new d y) os es w p xs := by
  rcases h with h | ⟨o, g, wr, h0, h1, h2, h3, h4⟩
  · exact .inl h
  · refine .inr ⟨o, g, wr, h0, h1, ?_, ?_, h4⟩
    · simp only [new_m]; rw [if_neg (fun h => by obtain ⟨rfl, rfl⟩ := h; omega)]; exact h2
    · simp only [new_c]; split
      · rename_i h; subst h; omega
      · exact h3
theorem Gat.put {os : List Nat} {es : Nat} {w : Bool} {p : PV} {xs : List PV} (h : Gat σ os es w p xs) {d k : Nat} (hd : d ∉ os) (y : Option Obj) : Gat (σ.put d k y) os es w p xs := by
  rcases h with h | ⟨o, g, wr, h0, h1, h2, h3, h4⟩
  · exact .inl h
  · refine .inr ⟨o, g, wr, h0, h1, ?_, ?_, h4⟩
    · simp only [put_m]; rw [if_neg (fun (h : o = d ∧ g = k) => hd (h.1 ▸ h0))]; exact h2
    · simp only [put_c]; exact h3
theorem Gat.fz {os : List Nat} {es : Nat} {w : Bool} {p : PV} {xs : List PV} (h : Gat σ os es w p xs) (hx : xs.mapM (fz σ 11) = some xs) : fz σ 12 p = some (.sl xs) := by
  rcases h with ⟨rfl, rfl⟩ | ⟨o, g, wr, _, rfl, h2, _⟩
  · rfl
  · rw [fz_ob, h2]
    simp [hx]
theorem Gat.mono {os os' : List Nat} {es : Nat} {w : Bool} {p : PV} {xs : List PV} (h : Gat σ os es w p xs) (ho : ∀ o ∈ os, o ∈ os') : Gat σ os' es false p xs := by
  rcases h with h | ⟨o, g, wr, h0, h1, h2, h3, h4, _⟩
  · exact .inl h
  · exact .inr ⟨o, g, wr, ho o h0, h1, h2, h3, h4, fun h => by cases h⟩
structure Keeps (σ σ' : St) (os : List Nat) : Prop where
  c : ∀ o, σ.c o ≤ σ'.c o
  m : ∀ o g, o ∉ os → g < σ.c o → σ'.m o g = σ.m o g
theorem Gat.keep {os os2 : List Nat} {es : Nat} {w : Bool} {p : PV} {xs : List PV} (h : Gat σ os es w p xs) (hk : Keeps σ σ' os2) (hd : ∀ o ∈ os, o ∉ os2) : Gat σ' os es w p xs := by
  rcases h with h | ⟨o, g, wr, h0, h1, h2, h3, h4⟩
  · exact .inl h
  · exact .inr ⟨o, g, wr, h0, h1, by rw [hk.m o g (hd o h0) h3]; exact h2, Nat.lt_of_lt_of_le h3 (hk.c o), h4⟩
theorem gat_appL {E : Ev} {d es by_ : Nat} {os : List Nat} {w kw : Bool} {s' x : PA} {xs ys : List PV} (hg : Gat σ os es w (pa fr s') xs) (hsrc : srcOf σ es (pa fr x) = some ys) (hall : (ys.all fun y => okc y && (cellsOf y).length == es) = true) (hb : (xs.length + ys.length) * by_ ≤ 70368744177664) :
    ∃ p σ', evO E d fr σ (.app es by_ kw s' x) = some (p, σ') ∧ Gat σ' [d] es (w && kw) p (xs ++ ys) ∧ Keeps σ σ' os := by
  rcases hg with ⟨h1, rfl⟩ | ⟨o, g, wr, h0, h1, h2, h3, h4, h5⟩
  · cases ys with
    | nil =>
      refine ⟨.em, σ, ?_, .em, ⟨fun _ => Nat.le_refl _, fun _ _ _ _ => rfl⟩⟩
      simp only [evO, hsrc, Option.bind_some, hall, if_true, h1]
      simp
    | cons y r =>
      refine ⟨.ob d (σ.c d) es 0 (y :: r).length, σ.new d ⟨es, y :: r, true, true⟩, ?_, .inr ⟨d, σ.c d, true, by simp, by simp, by simp [new_m], by simp [new_c], by simp, fun _ => rfl⟩, ⟨fun o => ?_, fun o g _ hlt => ?_⟩⟩
      · simp only [evO, hsrc, Option.bind_some, hall, if_true, h1]
        rw [if_pos (by simpa using hb)]
        rfl
      · simp only [new_c]; split
        · rename_i h; subst h; omega
        · exact Nat.le_refl _
      · simp only [new_m]; rw [if_neg (fun h => by obtain ⟨rfl, rfl⟩ := h; omega)]
  · refine ⟨.ob d (σ.c d) es 0 (xs.length + ys.length), (σ.put o g (if kw then none else some ⟨es, xs, false, false⟩)).new d ⟨es, xs ++ ys, true, wr && kw⟩, ?_, .inr ⟨d, σ.c d, wr && kw, by simp, by simp, by simp [new_m, put_c], by simp [new_c, put_c], by simp [h4], fun h => ?_⟩, ⟨fun o' => ?_, fun o' g' ho hlt => ?_⟩⟩
    · simp only [evO, hsrc, Option.bind_some, hall, if_true, h1, h2]
      simp
      simpa using hb
    · simp only [Bool.and_eq_true] at h ⊢
      exact ⟨h5 h.1, h.2⟩
    · simp only [new_c, put_c]; split
      · rename_i h; subst h; omega
      · exact Nat.le_refl _
    · simp only [new_m, put_m, put_c]
      have n1 : ¬ (o' = d ∧ g' = σ.c d) := fun h => by obtain ⟨rfl, rfl⟩ := h; omega
      have n2 : ¬ (o' = o ∧ g' = g) := fun h => ho (h.1 ▸ h0)
      simp only [n1, n2, if_false]
theorem s_gatL {d t es by_ : Nat} {os : List Nat} {w kw : Bool} {x : PA} {xs ys : List PV} {ops : List POp} (hg : Gat σ os es w (fr t) xs) (hsrc : srcOf σ es (pa fr x) = some ys) (hall : (ys.all fun y => okc y && (cellsOf y).length == es) = true) (hb : (xs.length + ys.length) * by_ ≤ 70368744177664)
    (h2 : ∀ p σ', Gat σ' [d] es (w && kw) p (xs ++ ys) → Keeps σ σ' os → Wos env ops K (fr.set d p) σ') : Wos env (⟨some d, none, .app es by_ kw (.t t) x⟩ :: ops) K fr σ := by
  obtain ⟨p, σ', h3, h4, h5⟩ := gat_appL (E := EV env) (d := d) (fr := fr) (s' := .t t) (x := x) (kw := kw) hg hsrc hall hb
  exact s_plain h3 (h2 p σ' h4 h5)
theorem Gat.one {d es : Nat} {w : Bool} {p : PV} {xs : List PV} {os : List Nat} (h : Gat σ [d] es w p xs) (hd : d ∈ os) : Gat σ os es false p xs := h.mono (by intro o ho; simp at ho; subst ho; exact hd)
theorem Gat.lenP {os : List Nat} {es : Nat} {w : Bool} {p : PV} {xs : List PV} (h : Gat σ os es w p xs) : lenP p = some xs.length := by
  rcases h with ⟨rfl, rfl⟩ | ⟨o, g, wr, _, rfl, _⟩ <;> rfl
def cutS (n : Nat) (s : ByteArray) : ByteArray := s.extract 0 (min s.size n)
theorem mn2 (a b : Int) : mnmx false [.sc (.int .i64 a), .sc (.int .i64 b)] = some (.sc (.int .i64 (min a b))) := by
  simp only [mnmx, List.foldlM_cons, List.foldlM_nil, mn1, if_true, Bool.false_eq_true, if_false]
  have : (if b < a then b else a) = min a b := by
    rw [Int.min_def]; split <;> split <;> omega
  rw [this]; rfl
theorem slcL_cut (fr : Fr) (t n es : Nat) (xs : List PV) (hx : xs.all (fun x => (cellsOf x).length == es) = true) (h : fr t = .sc (.int .i64 (min (xs.length : Int) (n : Int)))) : slcLP es fr (.sl xs) none (some (.t t)) = some (.sl (xs.take (min xs.length n))) := by
  have e : min (xs.length : Int) (n : Int) = ((min xs.length n : Nat) : Int) := by omega
  simp only [slcLP, hx, if_true, hiOf, pa, h, e, bound, loOf, Option.bind_some]
  have e2 : (0 : Int) ≤ ((min xs.length n : Nat) : Int) ∧ ((min xs.length n : Nat) : Int) ≤ (xs.length : Int) := by omega
  rw [if_pos e2]
  simp
end

def d108 : Def := (.code 1 [.tmp 2] (.seq (.rg false [⟨.some 2, .none, .mv (.c (.slice .none 0 0))⟩]) (.seq (.rg false [⟨.some 3, .none, .mv (.c (.slice .none 0 0))⟩]) (.seq (.seq (.rg false [⟨.some 6, .none, .mv (.t 0)⟩, ⟨.some 7, .none, .mv (.t 0)⟩, ⟨.some 8, .none, .lenL (.t 7)⟩, ⟨.some 9, .none, .mnmx false [.t 8, .c (.int .i64 10)]⟩, ⟨.some 10, .none, .slcL 2 (.t 6) .none (.some (.t 9))⟩, ⟨.some 11, .none, .lenL (.t 10)⟩, ⟨.some 12, .none, .mv (.c (.int .i64 0))⟩]) (.block 0 (.loop (.seq (.rg false [⟨.some 13, .none, .bin .lss (.t 12) (.t 11)⟩]) (.seq (.cond (.t 13) .skip (.exit 0)) (.seq (.block 1 (.seq (.rg false [⟨.some 14, .none, .ia 2 (.t 10) (.t 12)⟩, ⟨.some 15, .none, .ld (.some 2) (.t 14)⟩, ⟨.some 5, .none, .box (.c (.agg #[.string ⟨#[]⟩, .string ⟨#[]⟩]))⟩, ⟨.none, .none, .st 2 (.t 5) (.t 15)⟩]) (.rg true [⟨.some 16, .none, .mv (.t 3)⟩, ⟨.some 17, .none, .fa 0 (.t 5)⟩, ⟨.some 18, .none, .ld .none (.t 17)⟩, ⟨.some 19, .none, .fa 0 (.t 5)⟩, ⟨.some 20, .none, .ld .none (.t 19)⟩, ⟨.some 21, .none, .lenS (.t 20)⟩, ⟨.some 22, .none, .mnmx false [.t 21, .c (.int .i64 70)]⟩, ⟨.some 23, .none, .slcS (.t 18) .none (.some (.t 22))⟩, ⟨.some 24, .none, .fa 1 (.t 5)⟩, ⟨.some 25, .none, .ld .none (.t 24)⟩, ⟨.some 26, .none, .fa 1 (.t 5)⟩, ⟨.some 27, .none, .ld .none (.t 26)⟩, ⟨.some 28, .none, .lenS (.t 27)⟩, ⟨.some 29, .none, .mnmx false [.t 28, .c (.int .i64 70)]⟩, ⟨.some 30, .none, .slcS (.t 25) .none (.some (.t 29))⟩, ⟨.some 31, .none, .build (.agg #[.string ⟨#[]⟩, .string ⟨#[]⟩]) [(0, (1, .t 23)), (1, (1, .t 30))]⟩, ⟨.some 32, .none, .bsl 2 (.agg #[.string ⟨#[]⟩, .string ⟨#[]⟩]) 1 [(0, .t 31)]⟩, ⟨.some 33, .none, .app 2 32 false (.t 16) (.t 32)⟩, ⟨.some 3, .none, .mv (.t 33)⟩]))) (.rg false [⟨.some 34, .none, .bin .add (.t 12) (.c (.int .i64 1))⟩, ⟨.some 12, .none, .mv (.t 34)⟩]))))))) (.seq (.rg false [⟨.some 35, .none, .mv (.t 3)⟩, ⟨.some 2, .none, .mv (.t 35)⟩]) .ret)))))
section
variable {env : Nat → Option Def} {fr : Fr} {σ : St} {K : Fr → St → Prop}
def cutL (m : Lab) : Lab := (cutS 70 m.1, cutS 70 m.2)
def fewL (l : List Lab) : List Lab := (l.take (min l.length 10)).map cutL
def Got (σ : St) (s es : Nat) (p : PV) (xs : List PV) : Prop := (p = .em ∧ xs = []) ∨ ∃ g wr, p = .ob s g es 0 xs.length ∧ σ.m s g = some ⟨es, xs, true, wr⟩ ∧ g < σ.c s ∧ xs ≠ []
theorem Got.new {s es : Nat} {p : PV} {xs : List PV} (h : Got σ s es p xs) {d : Nat} (hd : s ≠ d) (y : Obj) : Got (σ.new d y) s es p xs := by
  rcases h with h | ⟨g, wr, h1, h2, h3, h4⟩
  · exact .inl h
  · exact .inr ⟨g, wr, h1, by simp only [new_m]; rw [if_neg (fun h => hd h.1)]; exact h2, by simp only [new_c]; rw [if_neg hd]; exact h3, h4⟩
theorem Got.put {s es : Nat} {p : PV} {xs : List PV} (h : Got σ s es p xs) {d k : Nat} (hd : s ≠ d) (y : Option Obj) : Got (σ.put d k y) s es p xs := by
  rcases h with h | ⟨g, wr, h1, h2, h3, h4⟩
  · exact .inl h
  · exact .inr ⟨g, wr, h1, by simp only [put_m]; rw [if_neg (fun h => hd h.1)]; exact h2, by simp only [put_c]; exact h3, h4⟩
theorem app_one {E : Ev} {s es by_ : Nat} {s' x : PA} {xs : List PV} {e : PV} (hg : Got σ s es (pa fr s') xs) (hsrc : srcOf σ es (pa fr x) = some [e]) (hok : okc e = true) (hl : (cellsOf e).length = es) (hb : (xs.length + 1) * by_ ≤ 70368744177664) :
    ∃ p σ', evO E s fr σ (.app es by_ false s' x) = some (p, σ') ∧ Got σ' s es p (xs ++ [e]) := by
  have hall : ([e].all fun y => okc y && (cellsOf y).length == es) = true := by simp [hok, hl]
  rcases hg with ⟨h1, rfl⟩ | ⟨g, wr, h1, h2, h3, h4⟩
  · refine ⟨.ob s (σ.c s) es 0 1, σ.new s ⟨es, [e], true, true⟩, ?_, .inr ⟨σ.c s, true, rfl, by simp [new_m], by simp [new_c], by simp⟩⟩
    simp only [evO, hsrc, Option.bind_some, hall, if_true, h1]
    rw [if_pos (by simpa using hb)]
    rfl
  · refine ⟨.ob s (σ.c s) es 0 (xs.length + 1), (σ.put s g (some ⟨es, xs, false, false⟩)).new s ⟨es, xs ++ [e], true, false⟩, ?_, .inr ⟨σ.c s, false, by simp, by simp [new_m, put_c], by simp [new_c, put_c], by simp⟩⟩
    simp only [evO, hsrc, Option.bind_some, hall, if_true, h1, h2]
    have hb' : (xs.length + [e].length) * by_ ≤ 70368744177664 := hb
    simp
    simpa using hb
theorem s_app {d t es by_ : Nat} {x : PA} {xs : List PV} {e : PV} {ops : List POp} (hg : Got σ d es (fr t) xs) (hsrc : srcOf σ es (pa fr x) = some [e]) (hok : okc e = true) (hl : (cellsOf e).length = es) (hb : (xs.length + 1) * by_ ≤ 70368744177664)
    (h2 : ∀ p σ', Got σ' d es p (xs ++ [e]) → Wos env ops K (fr.set d p) σ') : Wos env (⟨some d, none, .app es by_ false (.t t) x⟩ :: ops) K fr σ := by
  obtain ⟨p, σ', h3, h4⟩ := app_one (E := EV env) (fr := fr) (s' := .t t) (x := x) hg hsrc hok hl hb
  exact s_plain h3 (h2 p σ' h4)
theorem fewL_len (l : List Lab) : (fewL l).length = min l.length 10 := by simp [fewL]
theorem few_g {k0 : Nat} (hk0 : env k0 = some d108) {l : List Lab} (hn : l.length ≤ 9223372036854775807) : AV env k0 [.sl (labs l)] = some (.sl (labs (fewL l))) := by
  refine AV_wp hk0 rfl ?_
  have hll := labs_len l
  have hall : (labs l).all (fun x => (cellsOf x).length == 2) = true := by
    rw [List.all_eq_true]
    intro x hx
    obtain ⟨m, _, rfl⟩ := List.mem_map.1 hx
    rfl
  (repeat' first
    | refine w_seq ?_ | refine w_rg ?_ | refine wo_nil ?_ | refine g_skU ?_ | refine g_skT ?_ | refine g_skF ?_
    | ((first | apply s_plain | apply s_void | apply s_guard | apply g_goT | apply g_goF); · simp only [go_sem, Nat.reduceEqDiff, Nat.reduceAdd, Nat.reduceLeDiff, hll, mn2]; (first | done | rfl))
    | ((first | apply g_T | apply g_F | apply g_gT | apply g_gF); · intro q1_; (first | intro q2_ | have q2_ := q1_); simp only [go_sem, Nat.reduceEqDiff, Nat.reduceAdd, Nat.reduceLeDiff, hll, mn2, q1_, q2_]; (first | done | rfl))
    | fail
    )
  refine s_plain (v := .sl ((labs l).take (min l.length 10))) (σ' := St.nil) (by
    simp only [↓e_slcL]
    have h6 : pa _ (.t 6) = .sl (labs l) := (by simp only [go_sem, Nat.reduceEqDiff, Nat.reduceAdd, Nat.reduceLeDiff] : pa (((((((frOf [PV.sl (labs l)]).set 2 PV.em).set 3 PV.em).set 6 (PV.sl (labs l))).set 7 (PV.sl (labs l))).set 8 (PV.sc (Value.int IntKind.i64 l.length))).set 9 (PV.sc (Value.int IntKind.i64 (min (l.length : Int) 10)))) (.t 6) = .sl (labs l))
    rw [h6, slcL_cut _ 9 10 2 (labs l) hall (by simp only [go_sem, Nat.reduceEqDiff, Nat.reduceAdd, Nat.reduceLeDiff, hll]; rfl), hll]
    rfl) ?_
  have hlt : ((labs l).take (min l.length 10)).length = min l.length 10 := by rw [List.length_take, hll]; omega
  (repeat' first
    | refine w_seq ?_ | refine w_rg ?_ | refine wo_nil ?_ | refine g_skU ?_ | refine g_skT ?_ | refine g_skF ?_
    | ((first | apply s_plain | apply s_void | apply s_guard | apply g_goT | apply g_goF); · simp only [go_sem, Nat.reduceEqDiff, Nat.reduceAdd, Nat.reduceLeDiff, hlt]; (first | done | rfl))
    | ((first | apply g_T | apply g_F | apply g_gT | apply g_gF); · intro q1_; (first | intro q2_ | have q2_ := q1_); simp only [go_sem, Nat.reduceEqDiff, Nat.reduceAdd, Nat.reduceLeDiff, hlt, q1_, q2_]; (first | done | rfl))
    | fail
    )
  refine w_block (w_range (min l.length 10) (by omega) (fun i fr σ => fr 10 = .sl ((labs l).take (min l.length 10)) ∧ Got σ 33 2 (fr 3) ((labs (fewL l)).take i)) (by decide) ?_ ?_ ?_ _ _ ?_ ?_ ?_)
  · rintro i fr σ v ⟨h0, h1⟩
    refine ⟨⟨?_, ?_⟩, ⟨?_, ?_⟩, ⟨?_, ?_⟩⟩ <;> simp only [go_sem, Nat.reduceEqDiff, Nat.reduceAdd, Nat.reduceLeDiff, h0, h1]
  · rintro i fr σ hi ⟨h10, hg⟩ hti htn
    have hil : i < l.length := by omega
    have hx : ((labs l).take (min l.length 10))[i]? = some (.agg [.sc (.string l[i].1), .sc (.string l[i].2)]) := by
      rw [List.getElem?_take, if_pos hi]
      exact labs_at (List.getElem?_eq_getElem hil)
    have e1 : (0 : Int) ≤ (i : Int) ∧ (i : Int) < ((min l.length 10 : Nat) : Int) := by omega
    refine w_block ?_
    have b70 : ∀ (n : Nat) (k : IntKind), bound n (.sc (.int k (min (n : Int) 70))) = some (min n 70) := fun n k => bound_min rfl
    (repeat' first
    | refine w_seq ?_ | refine w_rg ?_ | refine wo_nil ?_ | refine g_skU ?_ | refine g_skT ?_ | refine g_skF ?_
    | ((first | apply s_plain | apply s_void | apply s_guard | apply g_goT | apply g_goF); · simp only [go_sem, Nat.reduceEqDiff, Nat.reduceAdd, Nat.reduceLeDiff, h10, hti, e1, hlt, Int.toNat_natCast, hx, mn2, List.modify_zero_cons, b70, fillP, fillE, splice, List.replicate_succ, List.replicate_zero, List.set_cons_zero]; (first | done | rfl))
    | ((first | apply g_T | apply g_F | apply g_gT | apply g_gF); · intro q1_; (first | intro q2_ | have q2_ := q1_); simp only [go_sem, Nat.reduceEqDiff, Nat.reduceAdd, Nat.reduceLeDiff, h10, hti, e1, hlt, Int.toNat_natCast, hx, mn2, List.modify_zero_cons, b70, fillP, fillE, splice, List.replicate_succ, List.replicate_zero, List.set_cons_zero, q1_, q2_]; (first | done | rfl))
    | fail
    )
    have hL : (labs (fewL l)).take (i + 1) = (labs (fewL l)).take i ++ [.agg [.sc (.string (cutS 70 l[i].1)), .sc (.string (cutS 70 l[i].2))]] := by
      have hlen : i < (labs (fewL l)).length := by rw [labs_len, fewL_len]; exact hi
      rw [List.take_succ_eq_append_getElem hlen]
      congr 1
      simp [labs, fewL, lab, cutL]
    have hlen : ((labs (fewL l)).take i).length ≤ 10 := by rw [List.length_take]; omega
    refine s_app (xs := (labs (fewL l)).take i) (e := .agg [.sc (.string (cutS 70 l[i].1)), .sc (.string (cutS 70 l[i].2))]) (by simp only [go_sem, Nat.reduceEqDiff, Nat.reduceAdd, Nat.reduceLeDiff]; exact ((hg.new (d := 2000005) (by decide) _).put (d := 2000005) (by decide) _).new (d := 32) (by decide) _) (by simp only [go_sem, Nat.reduceEqDiff, Nat.reduceAdd, Nat.reduceLeDiff, srcOf, elemsOf]; rfl) rfl rfl (by omega) ?_
    intro p σ' hg2
    rw [← hL] at hg2
    (repeat' first
    | refine w_seq ?_ | refine w_rg ?_ | refine wo_nil ?_ | refine g_skU ?_ | refine g_skT ?_ | refine g_skF ?_
    | ((first | apply s_plain | apply s_void | apply s_guard | apply g_goT | apply g_goF); · simp only [go_sem, Nat.reduceEqDiff, Nat.reduceAdd, Nat.reduceLeDiff]; (first | done | rfl))
    | ((first | apply g_T | apply g_F | apply g_gT | apply g_gF); · intro q1_; (first | intro q2_ | have q2_ := q1_); simp only [go_sem, Nat.reduceEqDiff, Nat.reduceAdd, Nat.reduceLeDiff, q1_, q2_]; (first | done | rfl))
    | fail
    )
    refine ⟨⟨?_, ?_⟩, ?_, ?_⟩
    · simp only [go_sem, Nat.reduceEqDiff, Nat.reduceAdd, Nat.reduceLeDiff, h10]
    · simp only [go_sem, Nat.reduceEqDiff, Nat.reduceAdd, Nat.reduceLeDiff]; exact hg2
    · simp only [go_sem, Nat.reduceEqDiff, Nat.reduceAdd, Nat.reduceLeDiff, hti]
    · simp only [go_sem, Nat.reduceEqDiff, Nat.reduceAdd, Nat.reduceLeDiff, htn]
  · rintro fr σ ⟨h10, hg⟩
    simp only [if_true]
    have hfull : (labs (fewL l)).take (min l.length 10) = labs (fewL l) := by rw [List.take_of_length_le]; rw [labs_len, fewL_len]; exact Nat.le_refl _
    rw [hfull] at hg
    have hfz : fz σ 12 (fr 3) = some (.sl (labs (fewL l))) := by
      have hm : ∀ (L : List Lab), (labs L).mapM (fz σ 11) = some (labs L) := by
        intro L
        induction L with
        | nil => rfl
        | cons m L ih =>
          show List.mapM (fz σ 11) (lab m :: labs L) = _
          rw [mapM_cons', ih]
          rfl
      rcases hg with ⟨h3, h4⟩ | ⟨g, wr, h3, h4, _, _⟩
      · rw [h3, h4]; rfl
      · rw [h3, fz_ob, h4]
        simp [hm]
    (repeat' first
    | refine w_seq ?_ | refine w_rg ?_ | refine wo_nil ?_ | refine g_skU ?_ | refine g_skT ?_ | refine g_skF ?_
    | ((first | apply s_plain | apply s_void | apply s_guard | apply g_goT | apply g_goF); · simp only [go_sem, Nat.reduceEqDiff, Nat.reduceAdd, Nat.reduceLeDiff]; (first | done | rfl))
    | ((first | apply g_T | apply g_F | apply g_gT | apply g_gF); · intro q1_; (first | intro q2_ | have q2_ := q1_); simp only [go_sem, Nat.reduceEqDiff, Nat.reduceAdd, Nat.reduceLeDiff, q1_, q2_]; (first | done | rfl))
    | (apply w_condX; · simp only [go_sem, Nat.reduceEqDiff, Nat.reduceAdd, Nat.reduceLeDiff]; (first | done | rfl)); (first | refine wcd_T ?_ | refine wcd_F ?_)
    | refine w_skip ?_ | refine w_exit ?_ | refine w_ret ?_
    | fail
    )
    exact ⟨.inr rfl, by simp only [go_sem, Nat.reduceEqDiff, Nat.reduceAdd, Nat.reduceLeDiff, retOf, resOf, hfz]⟩
  · exact ⟨by simp only [go_sem, Nat.reduceEqDiff, Nat.reduceAdd, Nat.reduceLeDiff], by simp only [go_sem, Nat.reduceEqDiff, Nat.reduceAdd, Nat.reduceLeDiff]; exact .inl ⟨rfl, rfl⟩⟩
  · simp only [go_sem, Nat.reduceEqDiff, Nat.reduceAdd, Nat.reduceLeDiff]
  · simp only [go_sem, Nat.reduceEqDiff, Nat.reduceAdd, Nat.reduceLeDiff]
end

section
variable {env : Nat → Option Def} {fr : Fr} {σ : St} {K : Fr → St → Prop}
theorem cutS_small (s : ByteArray) : Small (cutS 70 s) := by
  unfold Small cutS
  rw [ByteArray.size_extract]
  omega
theorem fewL_smalls (l : List Lab) : Smalls (fewL l) := by
  intro m hm
  simp only [fewL, List.mem_map] at hm
  obtain ⟨x, _, rfl⟩ := hm
  exact ⟨cutS_small _, cutS_small _⟩
end

def d136 : Def := (.code 2 [.tmp 4] (.seq (.rg false [⟨.some 2, .none, .box (.t 0)⟩, ⟨.some 3, .none, .box (.t 1)⟩, ⟨.some 4, .none, .mv (.c (.int .i64 0))⟩]) (.seq (.rg false [⟨.some 5, .none, .fa 0 (.t 2)⟩, ⟨.some 6, .none, .ld .none (.t 5)⟩, ⟨.some 7, .none, .fa 0 (.t 3)⟩, ⟨.some 8, .none, .ld .none (.t 7)⟩, ⟨.some 9, .none, .call 142 .pure [.t 6, .t 8]⟩, ⟨.some 4, .none, .mv (.t 9)⟩]) .ret)))
def d142 : Def := (.code 2 [.tmp 4] (.seq (.rg false [⟨.some 4, .none, .mv (.c (.int .i64 0))⟩]) (.seq (.rg false [⟨.some 5, .none, .mv (.t 0)⟩, ⟨.some 6, .none, .mv (.t 1)⟩, ⟨.some 7, .none, .call 153 .pure [.t 5, .t 6]⟩, ⟨.some 4, .none, .mv (.t 7)⟩]) .ret)))
def d143 : Def := (.code 4 [] (.seq (.rg false [⟨.some 10, .none, .mv (.t 1)⟩, ⟨.some 11, .none, .bin .add (.t 10) (.c (.int .i64 1))⟩, ⟨.some 8, .none, .mv (.t 11)⟩]) (.block 0 (.loop (.seq (.seq (.rg false [⟨.some 12, .none, .mv (.t 8)⟩, ⟨.some 13, .none, .mv (.t 2)⟩, ⟨.some 14, .none, .bin .lss (.t 12) (.t 13)⟩]) (.cond (.t 14) .skip (.exit 0))) (.seq (.block 1 (.seq (.rg false [⟨.some 17, .none, .mv (.t 8)⟩, ⟨.some 9, .none, .mv (.t 17)⟩]) (.block 2 (.loop (.seq (.seq (.rg true [⟨.some 18, .none, .mv (.t 9)⟩, ⟨.some 19, .none, .mv (.t 1)⟩, ⟨.some 20, .none, .bin .gtr (.t 18) (.t 19)⟩, ⟨.some 21, .none, .mv (.t 20)⟩, ⟨.some 22, .some (21, true), .mv (.t 3)⟩, ⟨.some 23, .some (21, true), .mv (.t 0)⟩, ⟨.some 24, .some (21, true), .mv (.t 9)⟩, ⟨.some 25, .some (21, true), .ia 2 (.t 23) (.t 24)⟩, ⟨.some 26, .some (21, true), .ld (.some 2) (.t 25)⟩, ⟨.some 27, .some (21, true), .mv (.t 0)⟩, ⟨.some 28, .some (21, true), .mv (.t 9)⟩, ⟨.some 29, .some (21, true), .bin .sub (.t 28) (.c (.int .i64 1))⟩, ⟨.some 30, .some (21, true), .ia 2 (.t 27) (.t 29)⟩, ⟨.some 31, .some (21, true), .ld (.some 2) (.t 30)⟩, ⟨.some 32, .some (21, true), .callv (.t 22) .strict [.t 26, .t 31]⟩, ⟨.some 33, .some (21, true), .bin .lss (.t 32) (.c (.int .i64 0))⟩, ⟨.some 34, .none, .pick (.t 21) (.t 33) (.c (.bool false))⟩]) (.cond (.t 34) .skip (.exit 2))) (.seq (.block 3 (.rg true [⟨.some 37, .none, .mv (.t 0)⟩, ⟨.some 38, .none, .mv (.t 9)⟩, ⟨.some 39, .none, .mv (.t 0)⟩, ⟨.some 40, .none, .mv (.t 9)⟩, ⟨.some 41, .none, .bin .sub (.t 40) (.c (.int .i64 1))⟩, ⟨.some 42, .none, .mv (.t 0)⟩, ⟨.some 43, .none, .mv (.t 9)⟩, ⟨.some 44, .none, .bin .sub (.t 43) (.c (.int .i64 1))⟩, ⟨.some 45, .none, .ia 2 (.t 42) (.t 44)⟩, ⟨.some 46, .none, .ld (.some 2) (.t 45)⟩, ⟨.some 47, .none, .mv (.t 0)⟩, ⟨.some 48, .none, .mv (.t 9)⟩, ⟨.some 49, .none, .ia 2 (.t 47) (.t 48)⟩, ⟨.some 50, .none, .ld (.some 2) (.t 49)⟩, ⟨.some 51, .none, .ia 2 (.t 37) (.t 38)⟩, ⟨.none, .none, .st 2 (.t 51) (.t 46)⟩, ⟨.some 52, .none, .ia 2 (.t 39) (.t 41)⟩, ⟨.none, .none, .st 2 (.t 52) (.t 50)⟩])) (.rg false [⟨.some 35, .none, .mv (.t 9)⟩, ⟨.some 36, .none, .bin .sub (.t 35) (.c (.int .i64 1))⟩, ⟨.some 9, .none, .mv (.t 36)⟩]))))))) (.rg false [⟨.some 15, .none, .mv (.t 8)⟩, ⟨.some 16, .none, .bin .add (.t 15) (.c (.int .i64 1))⟩, ⟨.some 8, .none, .mv (.t 16)⟩])))))))
def d140 : Def := (.code 5 [] (.seq (.rg false [⟨.some 10, .none, .mv (.c (.bool true))⟩]) (.seq (.rg false [⟨.some 11, .none, .mv (.c (.bool true))⟩]) (.block 0 (.loop (.block 1 (.seq (.rg false [⟨.some 21, .none, .mv (.t 2)⟩, ⟨.some 22, .none, .mv (.t 1)⟩, ⟨.some 23, .none, .bin .sub (.t 21) (.t 22)⟩, ⟨.some 12, .none, .mv (.t 23)⟩]) (.seq (.seq (.rg false [⟨.some 24, .none, .mv (.t 12)⟩, ⟨.some 25, .none, .bin .leq (.t 24) (.c (.int .i64 12))⟩]) (.cond (.t 25) (.seq (.rg false [⟨.some 26, .none, .mv (.t 0)⟩, ⟨.some 27, .none, .mv (.t 1)⟩, ⟨.some 28, .none, .mv (.t 2)⟩, ⟨.some 29, .none, .mv (.t 4)⟩, ⟨.some 30, .none, .call 143 .opn [.t 26, .t 27, .t 28, .t 29]⟩]) .ret) .skip)) (.seq (.seq (.rg false [⟨.some 31, .none, .mv (.t 3)⟩, ⟨.some 32, .none, .bin .eql (.t 31) (.c (.int .i64 0))⟩]) (.cond (.t 32) (.seq (.rg false [⟨.some 33, .none, .mv (.t 0)⟩, ⟨.some 34, .none, .mv (.t 1)⟩, ⟨.some 35, .none, .mv (.t 2)⟩, ⟨.some 36, .none, .mv (.t 4)⟩, ⟨.some 37, .none, .call 144 .pure [.t 33, .t 34, .t 35, .t 36]⟩]) .ret) .skip)) (.seq (.seq (.rg false [⟨.some 38, .none, .mv (.t 10)⟩, ⟨.some 39, .none, .un .not (.t 38)⟩]) (.cond (.t 39) (.seq (.rg false [⟨.some 40, .none, .mv (.t 0)⟩, ⟨.some 41, .none, .mv (.t 1)⟩, ⟨.some 42, .none, .mv (.t 2)⟩, ⟨.some 43, .none, .mv (.t 4)⟩, ⟨.some 44, .none, .call 145 .pure [.t 40, .t 41, .t 42, .t 43]⟩]) (.rg false [⟨.some 45, .none, .mv (.t 3)⟩, ⟨.some 46, .none, .bin .sub (.t 45) (.c (.int .i64 1))⟩, ⟨.some 3, .none, .mv (.t 46)⟩])) .skip)) (.seq (.rg false [⟨.some 48, .none, .mv (.t 0)⟩, ⟨.some 49, .none, .mv (.t 1)⟩, ⟨.some 50, .none, .mv (.t 2)⟩, ⟨.some 51, .none, .mv (.t 4)⟩, ⟨.some 52, .none, .call 146 .pure [.t 48, .t 49, .t 50, .t 51]⟩, ⟨.some 47, .none, .mv (.t 52)⟩, ⟨.some 53, .none, .ext (.t 47) 0⟩, ⟨.some 54, .none, .ext (.t 47) 1⟩, ⟨.some 13, .none, .mv (.t 53)⟩, ⟨.some 14, .none, .mv (.t 54)⟩]) (.seq (.seq (.rg false [⟨.some 55, .none, .mv (.t 14)⟩, ⟨.some 56, .none, .bin .eql (.t 55) (.c (.int .i64 2))⟩]) (.cond (.t 56) (.seq (.rg false [⟨.some 57, .none, .mv (.t 0)⟩, ⟨.some 58, .none, .mv (.t 1)⟩, ⟨.some 59, .none, .mv (.t 2)⟩, ⟨.some 60, .none, .mv (.t 4)⟩, ⟨.some 61, .none, .call 147 .pure [.t 57, .t 58, .t 59, .t 60]⟩]) (.seq (.rg false [⟨.some 62, .none, .mv (.t 2)⟩, ⟨.some 63, .none, .bin .sub (.t 62) (.c (.int .i64 1))⟩, ⟨.some 64, .none, .mv (.t 13)⟩, ⟨.some 65, .none, .mv (.t 1)⟩, ⟨.some 66, .none, .bin .sub (.t 64) (.t 65)⟩, ⟨.some 67, .none, .bin .sub (.t 63) (.t 66)⟩, ⟨.some 13, .none, .mv (.t 67)⟩]) (.rg false [⟨.some 14, .none, .mv (.c (.int .i64 1))⟩]))) .skip)) (.seq (.seq (.rg false [⟨.some 68, .none, .mv (.t 10)⟩, ⟨.some 69, .none, .mv (.t 68)⟩, ⟨.some 70, .some (69, true), .mv (.t 11)⟩, ⟨.some 71, .none, .pick (.t 69) (.t 70) (.c (.bool false))⟩, ⟨.some 72, .none, .mv (.t 71)⟩, ⟨.some 73, .some (72, true), .mv (.t 14)⟩, ⟨.some 74, .some (72, true), .bin .eql (.t 73) (.c (.int .i64 1))⟩, ⟨.some 75, .none, .pick (.t 72) (.t 74) (.c (.bool false))⟩]) (.cond (.t 75) (.seq (.rg false [⟨.some 76, .none, .mv (.t 0)⟩, ⟨.some 77, .none, .mv (.t 1)⟩, ⟨.some 78, .none, .mv (.t 2)⟩, ⟨.some 79, .none, .mv (.t 4)⟩, ⟨.some 80, .none, .call 148 .pure [.t 76, .t 77, .t 78, .t 79]⟩]) (.cond (.t 80) .ret .skip)) .skip)) (.seq (.seq (.rg true [⟨.some 81, .none, .mv (.t 1)⟩, ⟨.some 82, .none, .bin .gtr (.t 81) (.c (.int .i64 0))⟩, ⟨.some 83, .none, .mv (.t 82)⟩, ⟨.some 84, .some (83, true), .mv (.t 4)⟩, ⟨.some 85, .some (83, true), .mv (.t 0)⟩, ⟨.some 86, .some (83, true), .mv (.t 1)⟩, ⟨.some 87, .some (83, true), .bin .sub (.t 86) (.c (.int .i64 1))⟩, ⟨.some 88, .some (83, true), .ia 2 (.t 85) (.t 87)⟩, ⟨.some 89, .some (83, true), .ld (.some 2) (.t 88)⟩, ⟨.some 90, .some (83, true), .mv (.t 0)⟩, ⟨.some 91, .some (83, true), .mv (.t 13)⟩, ⟨.some 92, .some (83, true), .ia 2 (.t 90) (.t 91)⟩, ⟨.some 93, .some (83, true), .ld (.some 2) (.t 92)⟩, ⟨.some 94, .some (83, true), .callv (.t 84) .strict [.t 89, .t 93]⟩, ⟨.some 95, .some (83, true), .bin .lss (.t 94) (.c (.int .i64 0))⟩, ⟨.some 96, .some (83, true), .un .not (.t 95)⟩, ⟨.some 97, .none, .pick (.t 83) (.t 96) (.c (.bool false))⟩]) (.cond (.t 97) (.seq (.rg false [⟨.some 98, .none, .mv (.t 0)⟩, ⟨.some 99, .none, .mv (.t 1)⟩, ⟨.some 100, .none, .mv (.t 2)⟩, ⟨.some 101, .none, .mv (.t 13)⟩, ⟨.some 102, .none, .mv (.t 4)⟩, ⟨.some 103, .none, .call 149 .pure [.t 98, .t 99, .t 100, .t 101, .t 102]⟩, ⟨.some 15, .none, .mv (.t 103)⟩]) (.seq (.rg false [⟨.some 104, .none, .mv (.t 15)⟩, ⟨.some 1, .none, .mv (.t 104)⟩]) (.exit 1))) .skip)) (.seq (.rg false [⟨.some 106, .none, .mv (.t 0)⟩, ⟨.some 107, .none, .mv (.t 1)⟩, ⟨.some 108, .none, .mv (.t 2)⟩, ⟨.some 109, .none, .mv (.t 13)⟩, ⟨.some 110, .none, .mv (.t 4)⟩, ⟨.some 111, .none, .call 150 .pure [.t 106, .t 107, .t 108, .t 109, .t 110]⟩, ⟨.some 105, .none, .mv (.t 111)⟩, ⟨.some 112, .none, .ext (.t 105) 0⟩, ⟨.some 113, .none, .ext (.t 105) 1⟩, ⟨.some 16, .none, .mv (.t 112)⟩, ⟨.some 17, .none, .mv (.t 113)⟩]) (.seq (.rg false [⟨.some 114, .none, .mv (.t 17)⟩, ⟨.some 11, .none, .mv (.t 114)⟩]) (.seq (.rg false [⟨.some 115, .none, .mv (.t 16)⟩, ⟨.some 116, .none, .mv (.t 1)⟩, ⟨.some 117, .none, .bin .sub (.t 115) (.t 116)⟩, ⟨.some 118, .none, .mv (.t 2)⟩, ⟨.some 119, .none, .mv (.t 16)⟩, ⟨.some 120, .none, .bin .sub (.t 118) (.t 119)⟩, ⟨.some 18, .none, .mv (.t 117)⟩, ⟨.some 19, .none, .mv (.t 120)⟩]) (.seq (.rg false [⟨.some 121, .none, .mv (.t 12)⟩, ⟨.some 122, .none, .bin .quo (.t 121) (.c (.int .i64 8))⟩, ⟨.some 20, .none, .mv (.t 122)⟩]) (.seq (.rg false [⟨.some 123, .none, .mv (.t 18)⟩, ⟨.some 124, .none, .mv (.t 19)⟩, ⟨.some 125, .none, .bin .lss (.t 123) (.t 124)⟩]) (.cond (.t 125) (.seq (.rg false [⟨.some 126, .none, .mv (.t 18)⟩, ⟨.some 127, .none, .mv (.t 20)⟩, ⟨.some 128, .none, .bin .geq (.t 126) (.t 127)⟩, ⟨.some 10, .none, .mv (.t 128)⟩]) (.seq (.rg false [⟨.some 129, .none, .mv (.t 0)⟩, ⟨.some 130, .none, .mv (.t 1)⟩, ⟨.some 131, .none, .mv (.t 16)⟩, ⟨.some 132, .none, .mv (.t 3)⟩, ⟨.some 133, .none, .mv (.t 4)⟩, ⟨.some 134, .none, .call 140 .opn [.t 129, .t 130, .t 131, .t 132, .t 133]⟩]) (.rg false [⟨.some 135, .none, .mv (.t 16)⟩, ⟨.some 136, .none, .bin .add (.t 135) (.c (.int .i64 1))⟩, ⟨.some 1, .none, .mv (.t 136)⟩]))) (.seq (.rg false [⟨.some 137, .none, .mv (.t 19)⟩, ⟨.some 138, .none, .mv (.t 20)⟩, ⟨.some 139, .none, .bin .geq (.t 137) (.t 138)⟩, ⟨.some 10, .none, .mv (.t 139)⟩]) (.seq (.rg false [⟨.some 140, .none, .mv (.t 0)⟩, ⟨.some 141, .none, .mv (.t 16)⟩, ⟨.some 142, .none, .bin .add (.t 141) (.c (.int .i64 1))⟩, ⟨.some 143, .none, .mv (.t 2)⟩, ⟨.some 144, .none, .mv (.t 3)⟩, ⟨.some 145, .none, .mv (.t 4)⟩, ⟨.some 146, .none, .call 140 .opn [.t 140, .t 142, .t 143, .t 144, .t 145]⟩]) (.rg false [⟨.some 147, .none, .mv (.t 16)⟩, ⟨.some 2, .none, .mv (.t 147)⟩])))))))))))))))))))))))
def d135 : Def := (.code 2 [] (.seq (.rg false [⟨.some 5, .none, .mv (.t 0)⟩, ⟨.some 6, .none, .lenL (.t 5)⟩, ⟨.some 4, .none, .mv (.t 6)⟩]) (.rg false [⟨.some 7, .none, .mv (.t 0)⟩, ⟨.some 8, .none, .mv (.t 4)⟩, ⟨.some 9, .none, .mv (.t 4)⟩, ⟨.some 10, .none, .cvi .u64 (.t 9)⟩, ⟨.some 11, .none, .call 141 .pure [.t 10]⟩, ⟨.some 12, .none, .mv (.t 1)⟩, ⟨.some 13, .none, .call 140 .opn [.t 7, .c (.int .i64 0), .t 8, .t 11, .t 12]⟩])))
def lo : List (Nat × Def) := [(136, d136), (142, d142), (143, d143), (140, d140), (135, d135), (153, .prim cmpF)]
section
variable {env : Nat → Option Def} {fr : Fr} {σ : St} {K : Fr → St → Prop} {Q : X → Fr → St → Prop}
def insAt (m : Lab) (a : List Lab) : Nat → List Lab
  | 0 => m :: a
  | k + 1 => if lessB m.1 (nth a k).1 then insAt m a k else a.take (k + 1) ++ m :: a.drop (k + 1)
def midL (a : List Lab) (m : Lab) (rest : List Lab) (j : Nat) : List Lab := a.take j ++ m :: (a.drop j ++ rest)
structure Down (o g n i : Nat) (a : List Lab) (m : Lab) (rest : List Lab) (j : Nat) (fr : Fr) (σ : St) : Prop where
  le : j ≤ a.length
  f0 : fr 0 = .ob o g 2 0 n
  f1 : fr 1 = .sc (.int .i64 0)
  f2 : fr 2 = .sc (.int .i64 n)
  f3 : fr 3 = .fn 136 [] []
  f8 : fr 8 = .sc (.int .i64 i)
  f9 : fr 9 = .sc (.int .i64 j)
  mm : σ.m o g = some ⟨2, labs (midL a m rest j), true, true⟩
  ins : insAt m a a.length = insAt m a j
end

section
variable {env : Nat → Option Def} {fr : Fr} {σ σ' : St} {K : Fr → St → Prop} {Q : X → Fr → St → Prop}
structure Seek (l : List Lab) (i : Nat) (a : List Lab) (m : Lab) (pb : PV) (k : Nat) (fr : Fr) (σ : St) : Prop where
  le : k ≤ a.length
  f9 : fr 9 = .sl (labs l)
  f11 : fr 11 = .sc (.int .i64 i)
  f10 : fr 10 = .sc (.int .i64 l.length)
  f5 : fr 5 = pb
  pb : ∃ g, pb = .bx 2000005 g 2 0 0 ∧ σ.m 2000005 g = some ⟨2, [lab m], true, true⟩ ∧ g < σ.c 2000005
  g3 : Gat σ [46] 2 false (fr 3) (labs a)
  f6 : fr 6 = .sc (.int .i64 k)
  ins : insAt m a a.length = insAt m a k
end

section
variable {env : Nat → Option Def} {fr : Fr} {σ σ' : St} {K : Fr → St → Prop} {Q : X → Fr → St → Prop}
def bp (l : List UInt8) : List PV := l.map fun b => .sc (.int .u8 b.toNat)
def OS : List Nat := [7, 19, 24, 27, 49, 56, 59]
structure Wr (l : List Lab) (i : Nat) (m : Lab) (out : List UInt8) (fr : Fr) (σ : St) : Prop where
  f8 : fr 8 = .sl (labs l)
  f9 : fr 9 = .sc (.int .i64 l.length)
  f10 : fr 10 = .sc (.int .i64 i)
  f4 : fr 4 = .sc (.int .i64 i)
  f5 : ∃ g, fr 5 = .bx 2000005 g 2 0 0 ∧ σ.m 2000005 g = some ⟨2, [.agg [.sc (.string m.1), .sc (.string m.2)]], true, true⟩ ∧ g < σ.c 2000005
  g3 : Gat σ OS 1 false (fr 3) (bp out)
end

def d37 : Def := (.code 2 [.tmp 4] (.seq (.rg false [⟨.some 4, .none, .mv (.c (.int .i64 0))⟩]) (.seq (.seq (.rg false [⟨.some 6, .none, .mv (.t 0)⟩, ⟨.some 7, .none, .lenL (.t 6)⟩, ⟨.some 8, .none, .mv (.c (.int .i64 0))⟩]) (.block 0 (.loop (.seq (.rg false [⟨.some 9, .none, .bin .lss (.t 8) (.t 7)⟩]) (.seq (.cond (.t 9) .skip (.exit 0)) (.seq (.block 1 (.seq (.rg false [⟨.some 10, .none, .mv (.t 8)⟩, ⟨.some 5, .none, .mv (.t 10)⟩]) (.seq (.rg false [⟨.some 11, .none, .mv (.t 1)⟩, ⟨.some 12, .none, .mv (.t 0)⟩, ⟨.some 13, .none, .mv (.t 5)⟩, ⟨.some 14, .none, .ia 1 (.t 12) (.t 13)⟩, ⟨.some 15, .none, .ld .none (.t 14)⟩, ⟨.some 16, .none, .bin .eql (.t 11) (.t 15)⟩]) (.cond (.t 16) (.seq (.rg false [⟨.some 17, .none, .mv (.t 5)⟩, ⟨.some 4, .none, .mv (.t 17)⟩]) .ret) .skip)))) (.rg false [⟨.some 18, .none, .bin .add (.t 8) (.c (.int .i64 1))⟩, ⟨.some 8, .none, .mv (.t 18)⟩]))))))) (.seq (.rg false [⟨.some 4, .none, .mv (.c (.int .i64 (-1)))⟩]) .ret))))
def d50 : Def := (.code 2 [.tmp 4] (.seq (.rg false [⟨.some 4, .none, .mv (.c (.bool false))⟩]) (.seq (.rg false [⟨.some 5, .none, .mv (.t 0)⟩, ⟨.some 6, .none, .mv (.t 1)⟩, ⟨.some 7, .none, .call 37 .pure [.t 5, .t 6]⟩, ⟨.some 8, .none, .bin .geq (.t 7) (.c (.int .i64 0))⟩, ⟨.some 4, .none, .mv (.t 8)⟩]) .ret)))
def lx0 : List (Nat × Def) := [(37, d37), (50, d50)]
section
variable {env : Nat → Option Def} {fr : Fr} {σ σ' : St} {K : Fr → St → Prop} {Q : X → Fr → St → Prop}
def strs (l : List ByteArray) : List PV := l.map fun s => .sc (.string s)
theorem strs_len (l : List ByteArray) : (strs l).length = l.length := by simp [strs]
theorem strs_at {l : List ByteArray} {i : Nat} {s : ByteArray} (h : l[i]? = some s) : (strs l)[i]? = some (.sc (.string s)) := by simp [strs, h]
def nthS (l : List ByteArray) (i : Nat) : ByteArray := l[i]?.getD ⟨#[]⟩
theorem nthS_eq {l : List ByteArray} {i : Nat} (hi : i < l.length) : nthS l i = l[i] := by unfold nthS; rw [List.getElem?_eq_getElem hi]; rfl
def isS (l : List ByteArray) (s : ByteArray) (i : Nat) : Bool := s.toList == (nthS l i).toList
def hasN (l : List ByteArray) (s : ByteArray) : Bool := decide (found (isS l s) l.length ≥ 0)
theorem a37 (X : Has lx0 env) {l : List ByteArray} (hn : l.length ≤ 9223372036854775807) (s : ByteArray) : AV env 37 [.sl (strs l), .sc (.string s)] = some (.sc (.int .i64 (found (isS l s) l.length))) := by
  refine AV_wp (X (37, d37) (by simp [lx0])) rfl ?_
  have hll := strs_len l
  (repeat' first
    | refine w_seq ?_ | refine w_rg ?_ | refine wo_nil ?_ | refine g_skU ?_ | refine g_skT ?_ | refine g_skF ?_
    | ((first | apply s_plain | apply s_void | apply s_guard | apply g_goT | apply g_goF); · simp only [go_sem, Nat.reduceEqDiff, Nat.reduceAdd, Nat.reduceLeDiff, hll]; (first | done | rfl))
    | ((first | apply g_T | apply g_F | apply g_gT | apply g_gF); · intro q1_; (first | intro q2_ | have q2_ := q1_); simp only [go_sem, Nat.reduceEqDiff, Nat.reduceAdd, Nat.reduceLeDiff, hll, q1_, q2_]; (first | done | rfl))
    | fail
    )
  refine w_block (w_range l.length hn (fun i fr σ => fr 0 = .sl (strs l) ∧ fr 1 = .sc (.string s) ∧ ∀ j, j < i → isS l s j = false) (by decide) ?_ ?_ ?_ _ _ ?_ ?_ ?_)
  · rintro i fr σ v ⟨h0, h1, h2⟩
    refine ⟨⟨?_, ?_, h2⟩, ⟨?_, ?_, h2⟩, ⟨?_, ?_, h2⟩⟩ <;> simp only [go_sem, Nat.reduceEqDiff, Nat.reduceAdd, Nat.reduceLeDiff, h0, h1]
  · rintro i fr σ hi ⟨h0, h1, h3⟩ hti htn
    have hy := strs_at (List.getElem?_eq_getElem hi)
    have hni := nthS_eq hi
    have e1 : (0 : Int) ≤ (i : Int) ∧ (i : Int) < (l.length : Int) := by omega
    refine w_block ?_
    (repeat' first
    | refine w_seq ?_ | refine w_rg ?_ | refine wo_nil ?_ | refine g_skU ?_ | refine g_skT ?_ | refine g_skF ?_
    | ((first | apply s_plain | apply s_void | apply s_guard | apply g_goT | apply g_goF); · simp only [go_sem, Nat.reduceEqDiff, Nat.reduceAdd, Nat.reduceLeDiff, h0, h1, hti, e1, hll, Int.toNat_natCast, hy]; (first | done | rfl))
    | ((first | apply g_T | apply g_F | apply g_gT | apply g_gF); · intro q1_; (first | intro q2_ | have q2_ := q1_); simp only [go_sem, Nat.reduceEqDiff, Nat.reduceAdd, Nat.reduceLeDiff, h0, h1, hti, e1, hll, Int.toNat_natCast, hy, q1_, q2_]; (first | done | rfl))
    | fail
    )
    have hbad : isS l s i = (s.toList == l[i].toList) := by unfold isS; rw [hni]
    rw [← hbad]
    cases hpi : isS l s i with
    | true =>
      (repeat' first
    | refine w_seq ?_ | refine w_rg ?_ | refine wo_nil ?_ | refine g_skU ?_ | refine g_skT ?_ | refine g_skF ?_
    | ((first | apply s_plain | apply s_void | apply s_guard | apply g_goT | apply g_goF); · simp only [go_sem, Nat.reduceEqDiff, Nat.reduceAdd, Nat.reduceLeDiff]; (first | done | rfl))
    | ((first | apply g_T | apply g_F | apply g_gT | apply g_gF); · intro q1_; (first | intro q2_ | have q2_ := q1_); simp only [go_sem, Nat.reduceEqDiff, Nat.reduceAdd, Nat.reduceLeDiff, q1_, q2_]; (first | done | rfl))
    | (apply w_condX; · simp only [go_sem, Nat.reduceEqDiff, Nat.reduceAdd, Nat.reduceLeDiff]; (first | done | rfl)); (first | refine wcd_T ?_ | refine wcd_F ?_)
    | refine w_skip ?_ | refine w_exit ?_ | refine w_ret ?_
    | fail
    )
      exact ⟨.inr rfl, by simp only [go_sem, Nat.reduceEqDiff, Nat.reduceAdd, Nat.reduceLeDiff, retOf, resOf, found_hit hi h3 hpi]⟩
    | false =>
      (repeat' first
    | refine w_seq ?_ | refine w_rg ?_ | refine wo_nil ?_ | refine g_skU ?_ | refine g_skT ?_ | refine g_skF ?_
    | ((first | apply s_plain | apply s_void | apply s_guard | apply g_goT | apply g_goF); · simp only [go_sem, Nat.reduceEqDiff, Nat.reduceAdd, Nat.reduceLeDiff]; (first | done | rfl))
    | ((first | apply g_T | apply g_F | apply g_gT | apply g_gF); · intro q1_; (first | intro q2_ | have q2_ := q1_); simp only [go_sem, Nat.reduceEqDiff, Nat.reduceAdd, Nat.reduceLeDiff, q1_, q2_]; (first | done | rfl))
    | (apply w_condX; · simp only [go_sem, Nat.reduceEqDiff, Nat.reduceAdd, Nat.reduceLeDiff]; (first | done | rfl)); (first | refine wcd_T ?_ | refine wcd_F ?_)
    | refine w_skip ?_ | refine w_exit ?_ | refine w_ret ?_
    | fail
    )
      refine ⟨⟨?_, ?_, fun j hj => ?_⟩, ?_, ?_⟩
      · simp only [go_sem, Nat.reduceEqDiff, Nat.reduceAdd, Nat.reduceLeDiff, h0]
      · simp only [go_sem, Nat.reduceEqDiff, Nat.reduceAdd, Nat.reduceLeDiff, h1]
      · by_cases hji : j = i
        · rw [hji]; exact hpi
        · exact h3 j (by omega)
      · simp only [go_sem, Nat.reduceEqDiff, Nat.reduceAdd, Nat.reduceLeDiff, hti]
      · simp only [go_sem, Nat.reduceEqDiff, Nat.reduceAdd, Nat.reduceLeDiff, htn]
  · rintro fr σ ⟨h0, h1, h3⟩
    try simp only [if_true]
    (repeat' first
    | refine w_seq ?_ | refine w_rg ?_ | refine wo_nil ?_ | refine g_skU ?_ | refine g_skT ?_ | refine g_skF ?_
    | ((first | apply s_plain | apply s_void | apply s_guard | apply g_goT | apply g_goF); · simp only [go_sem, Nat.reduceEqDiff, Nat.reduceAdd, Nat.reduceLeDiff]; (first | done | rfl))
    | ((first | apply g_T | apply g_F | apply g_gT | apply g_gF); · intro q1_; (first | intro q2_ | have q2_ := q1_); simp only [go_sem, Nat.reduceEqDiff, Nat.reduceAdd, Nat.reduceLeDiff, q1_, q2_]; (first | done | rfl))
    | (apply w_condX; · simp only [go_sem, Nat.reduceEqDiff, Nat.reduceAdd, Nat.reduceLeDiff]; (first | done | rfl)); (first | refine wcd_T ?_ | refine wcd_F ?_)
    | refine w_skip ?_ | refine w_exit ?_ | refine w_ret ?_
    | fail
    )
    exact ⟨.inr rfl, by simp only [go_sem, Nat.reduceEqDiff, Nat.reduceAdd, Nat.reduceLeDiff, retOf, resOf, found_none h3]⟩
  · refine ⟨?_, ?_, fun j hj => by omega⟩ <;> simp only [go_sem, Nat.reduceEqDiff, Nat.reduceAdd, Nat.reduceLeDiff]
  · simp only [go_sem, Nat.reduceEqDiff, Nat.reduceAdd, Nat.reduceLeDiff]
  · simp only [go_sem, Nat.reduceEqDiff, Nat.reduceAdd, Nat.reduceLeDiff, hll]
theorem a50 (X : Has lx0 env) {l : List ByteArray} (hn : l.length ≤ 9223372036854775807) (s : ByteArray) : AV env 50 [.sl (strs l), .sc (.string s)] = some (.sc (.bool (hasN l s))) := by
  have h := a37 X hn s
  refine AV_wp (X (50, d50) (by simp [lx0])) rfl ?_
  (repeat' first
    | refine w_seq ?_ | refine w_rg ?_ | refine wo_nil ?_ | refine g_skU ?_ | refine g_skT ?_ | refine g_skF ?_
    | ((first | apply s_plain | apply s_void | apply s_guard | apply g_goT | apply g_goF); · simp only [go_sem, Nat.reduceEqDiff, Nat.reduceAdd, Nat.reduceLeDiff, h]; (first | done | rfl))
    | ((first | apply g_T | apply g_F | apply g_gT | apply g_gF); · intro q1_; (first | intro q2_ | have q2_ := q1_); simp only [go_sem, Nat.reduceEqDiff, Nat.reduceAdd, Nat.reduceLeDiff, h, q1_, q2_]; (first | done | rfl))
    | (apply w_condX; · simp only [go_sem, Nat.reduceEqDiff, Nat.reduceAdd, Nat.reduceLeDiff, h]; (first | done | rfl)); (first | refine wcd_T ?_ | refine wcd_F ?_)
    | refine w_skip ?_ | refine w_exit ?_ | refine w_ret ?_
    | fail
    )
  exact ⟨.inr rfl, by simp only [go_sem, Nat.reduceEqDiff, Nat.reduceAdd, Nat.reduceLeDiff, retOf, resOf]; rfl⟩
end

def lbs : List (Nat × Def) := [(26, .prim strF)]
section
variable {env : Nat → Option Def} {fr : Fr} {σ σ' σ'' : St} {K : Fr → St → Prop} {Q : X → Fr → St → Prop} {p : PV} {bs : List UInt8}
/-! ### rows that nobody writes -/
def SubS (σ σ' : St) : Prop := ∀ o g x, o < 2000000 → σ.m o g = some x → ∃ x', σ'.m o g = some x' ∧ x'.es = x.es ∧ x'.xs = x.xs
theorem SubS.refl (σ : St) : SubS σ σ := fun _ _ x _ h => ⟨x, h, rfl, rfl⟩
theorem SubS.trans (h : SubS σ σ') (h' : SubS σ' σ'') : SubS σ σ'' := fun o g x ho hx =>
  let ⟨y, h1, h2, h3⟩ := h o g x ho hx
  let ⟨z, h4, h5, h6⟩ := h' o g y ho h1
  ⟨z, h4, h5.trans h2, h6.trans h3⟩
theorem SubS.box (h : SubS σ σ') {o g : Nat} (ho : 2000000 ≤ o) (y : Option Obj) : SubS σ (σ'.put o g y) := fun o' g' x ho' hx => by
  obtain ⟨z, h1, h2⟩ := h o' g' x ho' hx
  refine ⟨z, ?_, h2⟩
  simp only [put_m]
  rw [if_neg (by omega)]
  exact h1
theorem SubS.new (h : SubS σ σ') (hF : Fresh σ') (s : Nat) (y : Obj) : SubS σ (σ'.new s y) := fun o' g' x ho' hx => by
  obtain ⟨z, h1, h2⟩ := h o' g' x ho' hx
  refine ⟨z, ?_, h2⟩
  simp only [new_m]
  rw [if_neg]
  · exact h1
  · rintro ⟨rfl, rfl⟩
    rw [hF.none] at h1; cases h1
theorem SubS.same (h : SubS σ σ') {o g : Nat} {x y : Obj} (hx : σ'.m o g = some x) (h1 : y.es = x.es) (h2 : y.xs = x.xs) : SubS σ (σ'.put o g (some y)) := fun o' g' z ho' hz => by
  obtain ⟨u, q1, q2, q3⟩ := h o' g' z ho' hz
  simp only [put_m]
  by_cases hq : o' = o ∧ g' = g
  · obtain ⟨rfl, rfl⟩ := hq
    rw [hx] at q1
    simp only [Option.some.injEq] at q1
    subst q1
    exact ⟨y, by simp, h1.trans q2, h2.trans q3⟩
  · exact ⟨u, by rw [if_neg hq]; exact q1, q2, q3⟩
theorem Fresh.put (h : Fresh σ) {o g : Nat} {x : Obj} (hx : σ.m o g = some x) (y : Option Obj) : Fresh (σ.put o g y) := by
  intro o' g' hs
  simp only [put_m, put_c] at hs ⊢
  split at hs
  · rename_i hq
    obtain ⟨rfl, rfl⟩ := hq
    exact h o' g' (by rw [hx]; rfl)
  · exact h o' g' hs
theorem Fresh.nil : Fresh St.nil := fun _ _ h => by cases h
/-! ### a strings.Builder -/
def bytesOf (bs : List UInt8) : List PV := bs.map fun b => .sc (.int .u8 b.toNat)
def Buf (σ : St) (p : PV) (bs : List UInt8) : Prop := (p = .sc (.slice none 0 0) ∧ bs = []) ∨ ∃ g wr, p = .ob bufAt g 1 0 bs.length ∧ σ.m bufAt g = some ⟨1, bytesOf bs, true, wr⟩ ∧ bs ≠ []
def Bld (σ : St) (g : Nat) (bs : List UInt8) : Prop := ∃ a p, σ.m bldAt g = some ⟨2, [.agg [a, p]], true, true⟩ ∧ (a = .sc (.pointer none) ∨ a = .bx bldAt g 2 0 0) ∧ Buf σ p bs
structure Stays (σ σ' : St) : Prop where
  m : ∀ o g x, o ≠ bldAt → o ≠ bufAt → σ.m o g = some x → σ'.m o g = some x
  c : ∀ o, σ.c o ≤ σ'.c o
  s : SubS σ σ'
  f : Fresh σ'
theorem Stays.trans {σ1 σ2 σ3 : St} (h : Stays σ1 σ2) (h' : Stays σ2 σ3) : Stays σ1 σ3 :=
  ⟨fun o g x a b e => h'.m o g x a b (h.m o g x a b e), fun o => Nat.le_trans (h.c o) (h'.c o), h.s.trans h'.s, h'.f⟩
theorem Stays.refl (h : Fresh σ) : Stays σ σ := ⟨fun _ _ _ _ _ h => h, fun _ => Nat.le_refl _, SubS.refl σ, h⟩
theorem new_c_le (σ : St) (s : Nat) (y : Obj) (o : Nat) : σ.c o ≤ (σ.new s y).c o := by
  simp only [new_c]; split
  · rename_i h; subst h; omega
  · exact Nat.le_refl _
theorem Stays.new (h : Stays σ σ') (s : Nat) (y : Obj) : Stays σ (σ'.new s y) :=
  ⟨fun o g x a b e => (by
    have := h.m o g x a b e
    simp only [new_m]
    rw [if_neg]
    · exact this
    · rintro ⟨rfl, rfl⟩
      rw [h.f.none] at this
      cases this), fun o => Nat.le_trans (h.c o) (new_c_le _ _ _ _), h.s.new h.f _ _, h.f.new _ _⟩
theorem Stays.bld (h : Stays σ σ') {g : Nat} {x : Obj} (hm : σ'.m bldAt g = some x) (y : Obj) : Stays σ (σ'.put bldAt g (some y)) :=
  ⟨fun o g' x a b e => by simp only [put_m]; rw [if_neg (fun h => a h.1)]; exact h.m o g' x a b e, h.c, h.s.box (by unfold bldAt; omega) _, h.f.put hm _⟩
theorem Stays.buf (h : Stays σ σ') {g : Nat} {x y : Obj} (hm : σ'.m bufAt g = some x) (h1 : y.es = x.es) (h2 : y.xs = x.xs) : Stays σ (σ'.put bufAt g (some y)) :=
  ⟨fun o g' x a b e => by simp only [put_m]; rw [if_neg (fun h => b h.1)]; exact h.m o g' x a b e, h.c, h.s.same hm h1 h2, h.f.put hm _⟩
theorem bytes_ok (bs : List UInt8) : ((bytesOf bs).all fun y => okc y && (cellsOf y).length == 1) = true := by
  rw [List.all_eq_true]
  intro y hy
  simp only [bytesOf, List.mem_map] at hy
  obtain ⟨b, _, rfl⟩ := hy
  rfl
theorem bytesOf_len (bs : List UInt8) : (bytesOf bs).length = bs.length := by simp [bytesOf]
theorem buf_app {E : Ev} {d : Nat} {s' x : PA} {bs cs : List UInt8} (hb : Buf σ (pa fr s') bs) (hF : Fresh σ) (hsrc : srcOf σ 1 (pa fr x) = some (bytesOf cs)) (hl : bs.length + cs.length ≤ 70368744177664) :
    ∃ p σ', evO E d fr σ (.appb false s' x) = some (p, σ') ∧ Buf σ' p (bs ++ cs) ∧ Stays σ σ' ∧ ∀ g, σ'.m bldAt g = σ.m bldAt g := by
  have hbb : bldAt ≠ bufAt := by decide
  simp only [e_appb, hsrc, Option.bind_some]
  rw [if_pos (bytes_ok cs)]
  rcases hb with ⟨hp, rfl⟩ | ⟨g, wr, hp, hm, hne⟩
  · rw [hp]
    simp only [bytesOf_len, Nat.mul_one]
    rw [if_pos (by simpa using hl)]
    cases cs with
    | nil => exact ⟨_, σ, rfl, .inl ⟨rfl, rfl⟩, Stays.refl hF, fun _ => rfl⟩
    | cons c cs =>
      refine ⟨.ob bufAt (σ.c bufAt) 1 0 (c :: cs).length, σ.new bufAt ⟨1, bytesOf (c :: cs), true, true⟩, rfl, .inr ⟨σ.c bufAt, true, by simp, by simp [new_m], by simp⟩, (Stays.refl hF).new _ _, fun g => ?_⟩
      simp only [new_m]; rw [if_neg (fun h => hbb h.1)]
  · rw [hp]
    simp only [hm, bytesOf_len, Nat.mul_one]
    rw [if_pos ⟨trivial, trivial, trivial, trivial, trivial, trivial, hl⟩]
    simp only [Bool.false_eq_true, if_false, Bool.and_false]
    refine ⟨.ob bufAt (σ.c bufAt) 1 0 (bs.length + cs.length), (σ.put bufAt g (some ⟨1, bytesOf bs, false, false⟩)).new bufAt ⟨1, bytesOf bs ++ bytesOf cs, true, false⟩, rfl,
      .inr ⟨σ.c bufAt, false, by simp, by simp [new_m, put_c, bytesOf], by simp [hne]⟩, ((Stays.refl hF).buf (y := ⟨1, bytesOf bs, false, false⟩) hm rfl rfl).new _ _, fun g => ?_⟩
    simp only [new_m, put_m]; rw [if_neg (fun h => hbb h.1), if_neg (fun h => hbb h.1)]
theorem b_cc (h47 : env 47 = some (.prim ccF)) {g : Nat} {bs : List UInt8} (hb : Bld σ g bs) (hF : Fresh σ) :
    ∃ p σ', EV env 47 [.bx bldAt g 2 0 0] σ = some (.tu [], σ') ∧ σ'.m bldAt g = some ⟨2, [.agg [.bx bldAt g 2 0 0, p]], true, true⟩ ∧ Buf σ' p bs ∧ Stays σ σ' := by
  obtain ⟨a, p, hm, ha, hbf⟩ := hb
  rcases ha with rfl | rfl
  · refine ⟨p, σ.put bldAt g (some ⟨2, [.agg [.bx bldAt g 2 0 0, p]], true, true⟩), ?_, by simp [put_m], ?_, (Stays.refl hF).bld hm _⟩
    · rw [EV_prim h47]
      simp only [ccF, hm]
      rfl
    · rcases hbf with h | ⟨g', wr, h1, h2, h3⟩
      · exact .inl h
      · exact .inr ⟨g', wr, h1, by simp only [put_m]; rw [if_neg (fun h => absurd h.1 (by decide))]; exact h2, h3⟩
  · refine ⟨p, σ, ?_, hm, hbf, Stays.refl hF⟩
    rw [EV_prim h47]
    simp only [ccF, hm]
    rfl
theorem s_appb {d t : Nat} {x : PA} {ops : List POp} {bs cs : List UInt8} (hb : Buf σ (fr t) bs) (hF : Fresh σ) (hsrc : srcOf σ 1 (pa fr x) = some (bytesOf cs)) (hl : bs.length + cs.length ≤ 70368744177664)
    (h2 : ∀ p σ', Buf σ' p (bs ++ cs) → Stays σ σ' → (∀ g, σ'.m bldAt g = σ.m bldAt g) → Wos env ops K (fr.set d p) σ') : Wos env (⟨some d, none, .appb false (.t t) x⟩ :: ops) K fr σ := by
  obtain ⟨p, σ', h3, h4, h5, h6⟩ := buf_app (E := EV env) (d := d) (fr := fr) (s' := .t t) (x := x) hb hF hsrc hl
  exact s_plain h3 (h2 p σ' h4 h5 h6)
theorem Buf.bld (h : Buf σ p bs) (g : Nat) (y : Option Obj) : Buf (σ.put bldAt g y) p bs := by
  rcases h with h | ⟨g', wr, h1, h2, h3⟩
  · exact .inl h
  · exact .inr ⟨g', wr, h1, by simp only [put_m]; rw [if_neg (fun h => absurd h.1 (by decide))]; exact h2, h3⟩
theorem Buf.ok (h : Buf σ p bs) : cellsOf p = [p] ∧ okc p = true := by
  rcases h with ⟨rfl, _⟩ | ⟨g', wr, rfl, _, _⟩ <;> exact ⟨rfl, rfl⟩
theorem b_st (S : Has lbs env) {g : Nat} {bs : List UInt8} (hb : Bld σ g bs) (hF : Fresh σ) (hl : bs.length ≤ 70368744177664) :
    ∃ σ', EV env 26 [.bx bldAt g 2 0 0] σ = some (.sc (.string ⟨bs.toArray⟩), σ') ∧ Stays σ σ' := by
  obtain ⟨a, p, hm, ha, hbf⟩ := hb
  have h := S (26, .prim strF) (by simp [lbs])
  rcases hbf with ⟨rfl, rfl⟩ | ⟨g', wr, rfl, h2, hne⟩
  · refine ⟨σ, ?_, Stays.refl hF⟩
    rw [EV_prim h]
    simp only [strF, hm]
    rfl
  · have hpos : 0 < bs.length := List.length_pos_iff.2 hne
    refine ⟨σ.put bufAt g' (some ⟨1, bytesOf bs, false, false⟩), ?_, (Stays.refl hF).buf (y := ⟨1, bytesOf bs, false, false⟩) h2 rfl rfl⟩
    rw [EV_prim h]
    simp only [strF, hm, h2]
    rw [if_pos ⟨trivial, trivial, trivial, trivial⟩, if_pos ⟨trivial, trivial, trivial⟩, if_pos ⟨by rw [bytesOf_len], hpos, hl⟩, show bytes? (bytesOf bs) = some bs from bytes?_map bs]
    rfl
theorem s_st {d t : Nat} {ops : List POp} (S : Has lbs env) {g : Nat} {bs : List UInt8} (ht : fr t = .bx bldAt g 2 0 0) (hb : Bld σ g bs) (hF : Fresh σ) (hl : bs.length ≤ 70368744177664)
    (h2 : ∀ σ', Stays σ σ' → Wos env ops K (fr.set d (.sc (.string ⟨bs.toArray⟩))) σ') : Wos env (⟨some d, none, .call 26 .opn [.t t]⟩ :: ops) K fr σ := by
  obtain ⟨σ', h1, h4⟩ := b_st S hb hF hl
  exact s_plain (v := .sc (.string ⟨bs.toArray⟩)) (σ' := σ') (by simp only [evO, callE, List.map_cons, List.map_nil, pa_t, ht]; exact h1) (h2 σ' h4)
theorem bld_new (σ : St) : Bld (σ.new bldAt ⟨2, [.agg [.sc (.pointer none), .sc (.slice none 0 0)]], true, true⟩) (σ.c bldAt) [] :=
  ⟨.sc (.pointer none), .sc (.slice none 0 0), by simp [new_m], .inl rfl, .inl ⟨rfl, rfl⟩⟩
theorem Bld.new {g : Nat} (h : Bld σ g bs) (hF : Fresh σ) (s : Nat) (y : Obj) : Bld (σ.new s y) g bs := by
  obtain ⟨a, p, hm, ha, hb⟩ := h
  have key : ∀ o g x, σ.m o g = some x → (σ.new s y).m o g = some x := fun o g x h => by
    simp only [new_m]
    rw [if_neg]
    · exact h
    · rintro ⟨rfl, rfl⟩
      rw [hF.none] at h; cases h
  refine ⟨a, p, key _ _ _ hm, ha, ?_⟩
  rcases hb with h | ⟨g', wr, h1, h2, h3⟩
  · exact .inl h
  · exact .inr ⟨g', wr, h1, key _ _ _ h2, h3⟩
theorem Bld.put {g o k : Nat} (h : Bld σ g bs) (h1 : o ≠ bldAt) (h2 : o ≠ bufAt) (y : Option Obj) : Bld (σ.put o k y) g bs := by
  obtain ⟨a, p, hm, ha, hb⟩ := h
  refine ⟨a, p, by simp only [put_m]; rw [if_neg (fun h => h1 h.1.symm)]; exact hm, ha, ?_⟩
  rcases hb with h | ⟨g', wr, q1, q2, q3⟩
  · exact .inl h
  · exact .inr ⟨g', wr, q1, by simp only [put_m]; rw [if_neg (fun h => h2 h.1.symm)]; exact q2, q3⟩
end

abbrev txt (l : List UInt8) : PV := .sc (.string ⟨l.toArray⟩)
theorem ba_data (a : Array UInt8) : (⟨a⟩ : ByteArray).data = a := rfl
theorem ba_size (l : List UInt8) : (⟨l.toArray⟩ : ByteArray).size = l.length := by simp [ByteArray.size]
theorem ba_toList (l : List UInt8) : (⟨l.toArray⟩ : ByteArray).toList = l := by rw [ByteArray.toList_eq]
theorem ba_extract (l : List UInt8) (a b : Nat) : (⟨l.toArray⟩ : ByteArray).extract a b = ⟨((l.take b).drop a).toArray⟩ := by
  apply ByteArray.ext
  rw [ByteArray.data_extract]
  apply Array.ext'
  simp [List.drop_take]
theorem drop_at {r : List UInt8} {i : Nat} (h : i < r.length) : r.drop i = r[i] :: r.drop (i + 1) := List.drop_eq_getElem_cons h
theorem u8_eq {a b : UInt8} : decide ((a.toNat : Int) = (b.toNat : Int)) = decide (a = b) := by
  rw [Bool.eq_iff_iff]
  simp only [decide_eq_true_eq, Int.natCast_inj, UInt8.toNat_inj]
theorem ba_append (a b : List UInt8) : (⟨a.toArray⟩ : ByteArray) ++ ⟨b.toArray⟩ = ⟨(a ++ b).toArray⟩ := by
  apply ByteArray.ext
  rw [ByteArray.data_append]
  simp
def d57 : Def := (.code 2 [.tmp 4, .tmp 5, .tmp 6] (.seq (.rg false [⟨.some 4, .none, .mv (.c (.string ⟨#[]⟩))⟩, ⟨.some 5, .none, .mv (.c (.string ⟨#[]⟩))⟩, ⟨.some 6, .none, .mv (.c (.bool false))⟩]) (.seq (.seq (.rg false [⟨.some 8, .none, .mv (.t 0)⟩, ⟨.some 9, .none, .mv (.t 1)⟩, ⟨.some 10, .none, .call 63 .pure [.t 8, .t 9]⟩, ⟨.some 7, .none, .mv (.t 10)⟩]) (.seq (.rg false [⟨.some 11, .none, .mv (.t 7)⟩, ⟨.some 12, .none, .bin .geq (.t 11) (.c (.int .i64 0))⟩]) (.cond (.t 12) (.seq (.rg true [⟨.some 13, .none, .mv (.t 0)⟩, ⟨.some 14, .none, .mv (.t 7)⟩, ⟨.some 15, .none, .slcS (.t 13) .none (.some (.t 14))⟩, ⟨.some 16, .none, .mv (.t 0)⟩, ⟨.some 17, .none, .mv (.t 7)⟩, ⟨.some 18, .none, .mv (.t 1)⟩, ⟨.some 19, .none, .lenS (.t 18)⟩, ⟨.some 20, .none, .bin .add (.t 17) (.t 19)⟩, ⟨.some 21, .none, .slcS (.t 16) (.some (.t 20)) .none⟩, ⟨.some 4, .none, .mv (.t 15)⟩, ⟨.some 5, .none, .mv (.t 21)⟩, ⟨.some 6, .none, .mv (.c (.bool true))⟩]) .ret) .skip))) (.seq (.rg false [⟨.some 22, .none, .mv (.t 0)⟩, ⟨.some 4, .none, .mv (.t 22)⟩, ⟨.some 5, .none, .mv (.c (.string ⟨#[]⟩))⟩, ⟨.some 6, .none, .mv (.c (.bool false))⟩]) .ret))))
def d39 : Def := (.code 2 [.tmp 4, .tmp 5, .tmp 6] (.seq (.rg false [⟨.some 4, .none, .mv (.c (.string ⟨#[]⟩))⟩, ⟨.some 5, .none, .mv (.c (.string ⟨#[]⟩))⟩, ⟨.some 6, .none, .mv (.c (.bool false))⟩]) (.seq (.rg false [⟨.some 7, .none, .mv (.t 0)⟩, ⟨.some 8, .none, .mv (.t 1)⟩, ⟨.some 9, .none, .call 57 .pure [.t 7, .t 8]⟩, ⟨.some 10, .none, .ext (.t 9) 0⟩, ⟨.some 11, .none, .ext (.t 9) 1⟩, ⟨.some 12, .none, .ext (.t 9) 2⟩, ⟨.some 4, .none, .mv (.t 10)⟩, ⟨.some 5, .none, .mv (.t 11)⟩, ⟨.some 6, .none, .mv (.t 12)⟩]) .ret)))
def lca : List (Nat × Def) := [(57, d57), (39, d39), (63, .prim (pureF idxF))]
section
variable {env : Nat → Option Def} {fr : Fr} {σ σ' σ'' : St} {K : Fr → St → Prop} {Q : X → Fr → St → Prop} {p : PV} {bs : List UInt8}
theorem a63 (C : Has lca env) {s t : List UInt8} (hs : s.length < 4294967281) : AV env 63 [txt s, txt t] = some (.sc (.int .i64 (Lib.index s t))) := by
  have h := C (63, .prim (pureF idxF)) (by simp [lca])
  refine AV_of (σ := St.nil) (r := .sc (.int .i64 (Lib.index s t))) ?_ rfl
  rw [EV_prim h]
  simp only [pureF, mapM_cons', mapM_nil', scOf, Option.bind_some, idxF, ba_size, ba_data, List.toList_toArray, if_pos hs, Option.map_some]
theorem a57 (C : Has lca env) {s t : List UInt8} (hs : s.length < 4294967281) (ht : t.length < 4294967281) : AV env 57 [txt s, txt t] = some (.tu [txt (Lib.cut s t).1, txt (Lib.cut s t).2.1, .sc (.bool (Lib.cut s t).2.2)]) := by
  have h := a63 C (t := t) hs
  refine AV_wp (C (57, d57) (by simp [lca])) rfl ?_
  (repeat' first
    | refine w_seq ?_ | refine w_rg ?_ | refine wo_nil ?_ | refine g_skU ?_ | refine g_skT ?_ | refine g_skF ?_
    | ((first | apply s_plain | apply s_void | apply s_guard | apply g_goT | apply g_goF); · simp only [go_sem, Nat.reduceEqDiff, Nat.reduceAdd, Nat.reduceLeDiff, h]; (first | done | rfl))
    | ((first | apply g_T | apply g_F | apply g_gT | apply g_gF); · intro q1_; (first | intro q2_ | have q2_ := q1_); simp only [go_sem, Nat.reduceEqDiff, Nat.reduceAdd, Nat.reduceLeDiff, h, q1_, q2_]; (first | done | rfl))
    | fail
    )
  have hc : Lib.cut s t = if 0 ≤ Lib.index s t then (s.take (Lib.index s t).toNat, s.drop ((Lib.index s t).toNat + t.length), true) else (s, [], false) := rfl
  by_cases hx : 0 ≤ Lib.index s t
  · have hx' : decide (Lib.index s t ≥ 0) = true := by simpa using hx
    obtain ⟨i, hi, hle⟩ : ∃ i : Nat, Lib.index s t = i ∧ i + t.length ≤ s.length := by
      have hcs := Lib.indexB_cases ⟨s.toArray⟩ ⟨t.toArray⟩
      simp only [Lib.indexB, List.toList_toArray, ba_size] at hcs
      rcases hcs with h | ⟨i, h1, h2⟩
      · rw [h] at hx; omega
      · exact ⟨i, h1, h2⟩
    rw [hi] at hc hx'
    rw [if_pos (by omega)] at hc
    have b1 : (0 : Int) ≤ (i : Int) ∧ (i : Int) ≤ (s.length : Int) := by omega
    have e2 : IntKind.i64.wrap ((i : Int) + (t.length : Int)) = ((i + t.length : Nat) : Int) := by rw [IntKind.wrap_i64]; omega
    have b2 : (0 : Int) ≤ ((i + t.length : Nat) : Int) ∧ ((i + t.length : Nat) : Int) ≤ (s.length : Int) := by omega
    (repeat' first
    | refine w_seq ?_ | refine w_rg ?_ | refine wo_nil ?_ | refine g_skU ?_ | refine g_skT ?_ | refine g_skF ?_
    | ((first | apply s_plain | apply s_void | apply s_guard | apply g_goT | apply g_goF); · simp only [go_sem, Nat.reduceEqDiff, Nat.reduceAdd, Nat.reduceLeDiff, hi, hx', ba_data, ba_size, ba_toList, ba_extract, ba_append, List.toList_toArray, bound, b1, e2, b2, Int.toNat_natCast]; (first | done | rfl))
    | ((first | apply g_T | apply g_F | apply g_gT | apply g_gF); · intro q1_; (first | intro q2_ | have q2_ := q1_); simp only [go_sem, Nat.reduceEqDiff, Nat.reduceAdd, Nat.reduceLeDiff, hi, hx', ba_data, ba_size, ba_toList, ba_extract, ba_append, List.toList_toArray, bound, b1, e2, b2, Int.toNat_natCast, q1_, q2_]; (first | done | rfl))
    | (apply w_condX; · simp only [go_sem, Nat.reduceEqDiff, Nat.reduceAdd, Nat.reduceLeDiff, hi, hx', ba_data, ba_size, ba_toList, ba_extract, ba_append, List.toList_toArray, bound, b1, e2, b2, Int.toNat_natCast]; (first | done | rfl)); (first | refine wcd_T ?_ | refine wcd_F ?_)
    | refine w_skip ?_ | refine w_exit ?_ | refine w_ret ?_
    | fail
    )
    have hd : (s.take s.length).drop (i + t.length) = s.drop (i + t.length) := by rw [List.take_of_length_le (Nat.le_refl _)]
    exact ⟨by first | exact .inr rfl | exact .inr trivial | exact .inl rfl, by simp only [go_sem, Nat.reduceEqDiff, Nat.reduceAdd, Nat.reduceLeDiff, retOf, resOf, hc, hd, List.drop_zero, Int.toNat_natCast]; first | done | rfl⟩
  · have hx' : decide (Lib.index s t ≥ 0) = false := by simpa using hx
    rw [if_neg hx] at hc
    (repeat' first
    | refine w_seq ?_ | refine w_rg ?_ | refine wo_nil ?_ | refine g_skU ?_ | refine g_skT ?_ | refine g_skF ?_
    | ((first | apply s_plain | apply s_void | apply s_guard | apply g_goT | apply g_goF); · simp only [go_sem, Nat.reduceEqDiff, Nat.reduceAdd, Nat.reduceLeDiff, hx']; (first | done | rfl))
    | ((first | apply g_T | apply g_F | apply g_gT | apply g_gF); · intro q1_; (first | intro q2_ | have q2_ := q1_); simp only [go_sem, Nat.reduceEqDiff, Nat.reduceAdd, Nat.reduceLeDiff, hx', q1_, q2_]; (first | done | rfl))
    | (apply w_condX; · simp only [go_sem, Nat.reduceEqDiff, Nat.reduceAdd, Nat.reduceLeDiff, hx']; (first | done | rfl)); (first | refine wcd_T ?_ | refine wcd_F ?_)
    | refine w_skip ?_ | refine w_exit ?_ | refine w_ret ?_
    | fail
    )
    exact ⟨by first | exact .inr rfl | exact .inr trivial | exact .inl rfl, by simp only [go_sem, Nat.reduceEqDiff, Nat.reduceAdd, Nat.reduceLeDiff, retOf, resOf, hc]; first | done | rfl⟩
theorem a39 (C : Has lca env) {s t : List UInt8} (hs : s.length < 4294967281) (ht : t.length < 4294967281) : AV env 39 [txt s, txt t] = some (.tu [txt (Lib.cut s t).1, txt (Lib.cut s t).2.1, .sc (.bool (Lib.cut s t).2.2)]) := by
  have h := a57 C hs ht
  refine AV_wp (C (39, d39) (by simp [lca])) rfl ?_
  (repeat' first
    | refine w_seq ?_ | refine w_rg ?_ | refine wo_nil ?_ | refine g_skU ?_ | refine g_skT ?_ | refine g_skF ?_
    | ((first | apply s_plain | apply s_void | apply s_guard | apply g_goT | apply g_goF); · simp only [go_sem, Nat.reduceEqDiff, Nat.reduceAdd, Nat.reduceLeDiff, h]; (first | done | rfl))
    | ((first | apply g_T | apply g_F | apply g_gT | apply g_gF); · intro q1_; (first | intro q2_ | have q2_ := q1_); simp only [go_sem, Nat.reduceEqDiff, Nat.reduceAdd, Nat.reduceLeDiff, h, q1_, q2_]; (first | done | rfl))
    | (apply w_condX; · simp only [go_sem, Nat.reduceEqDiff, Nat.reduceAdd, Nat.reduceLeDiff, h]; (first | done | rfl)); (first | refine wcd_T ?_ | refine wcd_F ?_)
    | refine w_skip ?_ | refine w_exit ?_ | refine w_ret ?_
    | fail
    )
  exact ⟨by first | exact .inr rfl | exact .inr trivial | exact .inl rfl, by simp only [go_sem, Nat.reduceEqDiff, Nat.reduceAdd, Nat.reduceLeDiff, retOf, resOf]; first | done | rfl⟩
def cutPre (s t : List UInt8) : List UInt8 := if t.isPrefixOf s then s.drop t.length else s
end

def d217 : Def := (.code 2 [.tmp 4] (.seq (.rg false [⟨.some 4, .none, .mv (.c .nilIface)⟩]) (.seq (.rg false [⟨.some 5, .none, .mv (.t 0)⟩, ⟨.some 6, .none, .call 47 .opn [.t 5]⟩]) (.seq (.rg false [⟨.some 7, .none, .mv (.t 0)⟩, ⟨.some 8, .none, .mv (.t 0)⟩, ⟨.some 9, .none, .nck (.t 8)⟩, ⟨.some 10, .none, .fa 1 (.t 9)⟩, ⟨.some 11, .none, .ld .none (.t 10)⟩, ⟨.some 12, .none, .mv (.t 1)⟩, ⟨.some 13, .none, .bsl 1 (.int .u8 0) 1 [(0, .t 12)]⟩, ⟨.some 14, .none, .appb false (.t 11) (.t 13)⟩, ⟨.some 15, .none, .nck (.t 7)⟩, ⟨.some 16, .none, .fa 1 (.t 15)⟩, ⟨.none, .none, .st 1 (.t 16) (.t 14)⟩]) (.seq (.rg false [⟨.some 4, .none, .mv (.c .nilIface)⟩]) .ret)))))
def lbb : List (Nat × Def) := [(217, d217), (47, .prim ccF)]
section
variable {env : Nat → Option Def} {fr : Fr} {σ σ' σ'' : St} {K : Fr → St → Prop} {Q : X → Fr → St → Prop} {p : PV} {bs : List UInt8}
theorem b_wb (H : Has lbb env) {g : Nat} {bs : List UInt8} (hb : Bld σ g bs) (hF : Fresh σ) (c : UInt8) (hl : bs.length + 1 ≤ 70368744177664) :
    ∃ σ', EV env 217 [.bx bldAt g 2 0 0, .sc (.int .u8 c.toNat)] σ = some (.sc .nilIface, σ') ∧ Bld σ' g (bs ++ [c]) ∧ Stays σ σ' := by
  obtain ⟨p, σ1, h1, hm1, hb1, hk1⟩ := b_cc (H (47, .prim ccF) (by simp [lbb])) hb hF
  obtain ⟨r, σ', he, hr⟩ := EV_wp' (f := 217) (as := [.bx bldAt g 2 0 0, .sc (.int .u8 c.toNat)]) (R := fun r τ => r = .sc .nilIface ∧ Bld τ g (bs ++ [c]) ∧ Stays σ τ) (σ := σ) (H (217, d217) (by simp [lbb])) rfl (by
    (repeat' first
    | refine w_seq ?_ | refine w_rg ?_ | refine wo_nil ?_ | refine g_skU ?_ | refine g_skT ?_ | refine g_skF ?_
    | ((first | apply s_plain | apply s_void | apply s_guard | apply g_goT | apply g_goF); · simp only [go_sem, Nat.reduceEqDiff, Nat.reduceAdd, Nat.reduceLeDiff, h1]; (first | done | rfl))
    | ((first | apply g_T | apply g_F | apply g_gT | apply g_gF); · intro q1_; (first | intro q2_ | have q2_ := q1_); simp only [go_sem, Nat.reduceEqDiff, Nat.reduceAdd, Nat.reduceLeDiff, h1, q1_, q2_]; (first | done | rfl))
    | fail
    )
    (repeat' first
    | refine w_seq ?_ | refine w_rg ?_ | refine wo_nil ?_ | refine g_skU ?_ | refine g_skT ?_ | refine g_skF ?_
    | ((first | apply s_plain | apply s_void | apply s_guard | apply g_goT | apply g_goF); · simp only [go_sem, Nat.reduceEqDiff, Nat.reduceAdd, Nat.reduceLeDiff, hm1, List.modify_zero_cons, fillE, List.replicate_succ, List.replicate_zero, List.set_cons_zero]; (first | done | rfl))
    | ((first | apply g_T | apply g_F | apply g_gT | apply g_gF); · intro q1_; (first | intro q2_ | have q2_ := q1_); simp only [go_sem, Nat.reduceEqDiff, Nat.reduceAdd, Nat.reduceLeDiff, hm1, List.modify_zero_cons, fillE, List.replicate_succ, List.replicate_zero, List.set_cons_zero, q1_, q2_]; (first | done | rfl))
    | fail
    )
    have hb1' : Buf (σ1.new 13 ⟨1, [.sc (.int .u8 c.toNat)], true, true⟩) p bs := by
      rcases hb1 with h | ⟨g', wr, q1, q2, q3⟩
      · exact .inl h
      · exact .inr ⟨g', wr, q1, by simp only [new_m]; rw [if_neg (fun h => absurd h.1 (by decide))]; exact q2, q3⟩
    refine s_appb (bs := bs) (cs := [c]) (by simp only [go_sem, Nat.reduceEqDiff, Nat.reduceAdd, Nat.reduceLeDiff]; exact hb1') (hk1.f.new _ _) (by simp only [go_sem, Nat.reduceEqDiff, Nat.reduceAdd, Nat.reduceLeDiff, srcOf, elemsOf, List.drop_zero]; rfl) hl ?_
    intro p2 σ2 hb2 hk2 hm2
    have hm3 : σ2.m bldAt g = _ := (hm2 g).trans ((show _ = σ1.m bldAt g by simp only [new_m]; rw [if_neg (fun h => absurd h.1 (by decide))]).trans hm1)
    obtain ⟨k1, k2⟩ := hb2.ok
    (repeat' first
    | refine w_seq ?_ | refine w_rg ?_ | refine wo_nil ?_ | refine g_skU ?_ | refine g_skT ?_ | refine g_skF ?_
    | ((first | apply s_plain | apply s_void | apply s_guard | apply g_goT | apply g_goF); · simp only [go_sem, Nat.reduceEqDiff, Nat.reduceAdd, Nat.reduceLeDiff, hm3, splice, List.modify_zero_cons, k1, k2]; (first | done | rfl))
    | ((first | apply g_T | apply g_F | apply g_gT | apply g_gF); · intro q1_; (first | intro q2_ | have q2_ := q1_); simp only [go_sem, Nat.reduceEqDiff, Nat.reduceAdd, Nat.reduceLeDiff, hm3, splice, List.modify_zero_cons, k1, k2, q1_, q2_]; (first | done | rfl))
    | (apply w_condX; · simp only [go_sem, Nat.reduceEqDiff, Nat.reduceAdd, Nat.reduceLeDiff, hm3, splice, List.modify_zero_cons, k1, k2]; (first | done | rfl)); (first | refine wcd_T ?_ | refine wcd_F ?_)
    | refine w_skip ?_ | refine w_exit ?_ | refine w_ret ?_
    | fail
    )
    refine ⟨.inr rfl, _, by simp only [go_sem, Nat.reduceEqDiff, Nat.reduceAdd, Nat.reduceLeDiff, retOf, resOf], rfl, ⟨.bx bldAt g 2 0 0, p2, ?_, .inr rfl, hb2.bld _ _⟩, ((hk1.new _ _).trans hk2).bld hm3 _⟩
    simp only [go_sem, Nat.reduceEqDiff, Nat.reduceAdd, Nat.reduceLeDiff])
  exact ⟨σ', by rw [he, hr.1], hr.2⟩
theorem s_wb {d t : Nat} {x : PA} {ops : List POp} (H : Has lbb env) {g : Nat} {bs : List UInt8} {c : UInt8} (ht : fr t = .bx bldAt g 2 0 0) (hx : pa fr x = .sc (.int .u8 c.toNat)) (hb : Bld σ g bs) (hF : Fresh σ) (hl : bs.length + 1 ≤ 70368744177664)
    (h2 : ∀ σ', Bld σ' g (bs ++ [c]) → Stays σ σ' → Wos env ops K (fr.set d (.sc .nilIface)) σ') : Wos env (⟨some d, none, .call 217 .opn [.t t, x]⟩ :: ops) K fr σ := by
  obtain ⟨σ', h1, h3, h4⟩ := b_wb H hb hF c hl
  exact s_plain (v := .sc .nilIface) (σ' := σ') (by simp only [evO, callE, List.map_cons, List.map_nil, pa_t, ht, hx]; exact h1) (h2 σ' h3 h4)
end

def d213 : Def := (.code 1 [.cell 2 (.some 2), .tmp 3, .tmp 4] (.seq (.rg false [⟨.some 2, .none, .box (.c (.agg #[.string ⟨#[]⟩, .string ⟨#[]⟩]))⟩, ⟨.some 3, .none, .mv (.c (.string ⟨#[]⟩))⟩, ⟨.some 4, .none, .mv (.c (.bool false))⟩]) (.seq (.rg false [⟨.some 12, .none, .mv (.t 0)⟩, ⟨.some 13, .none, .call 39 .pure [.t 12, .c (.string ⟨#[61, 34]⟩)]⟩, ⟨.some 11, .none, .mv (.t 13)⟩, ⟨.some 14, .none, .ext (.t 11) 0⟩, ⟨.some 15, .none, .ext (.t 11) 1⟩, ⟨.some 16, .none, .ext (.t 11) 2⟩, ⟨.some 5, .none, .mv (.t 14)⟩, ⟨.some 6, .none, .mv (.t 15)⟩, ⟨.some 7, .none, .mv (.t 16)⟩]) (.seq (.seq (.rg false [⟨.some 17, .none, .mv (.t 7)⟩, ⟨.some 18, .none, .un .not (.t 17)⟩]) (.cond (.t 18) (.seq (.rg false [⟨.some 19, .none, .build (.agg #[.string ⟨#[]⟩, .string ⟨#[]⟩]) []⟩, ⟨.none, .none, .st 2 (.t 2) (.t 19)⟩, ⟨.some 3, .none, .mv (.c (.string ⟨#[]⟩))⟩, ⟨.some 4, .none, .mv (.c (.bool false))⟩]) .ret) .skip)) (.seq (.rg false [⟨.some 8, .none, .bbx⟩]) (.seq (.seq (.rg false [⟨.some 9, .none, .mv (.c (.int .i64 0))⟩]) (.block 0 (.loop (.seq (.seq (.rg false [⟨.some 20, .none, .mv (.t 9)⟩, ⟨.some 21, .none, .mv (.t 6)⟩, ⟨.some 22, .none, .lenS (.t 21)⟩, ⟨.some 23, .none, .bin .lss (.t 20) (.t 22)⟩]) (.cond (.t 23) .skip (.exit 0))) (.seq (.block 1 (.seq (.rg false [⟨.some 26, .none, .mv (.t 6)⟩, ⟨.some 27, .none, .mv (.t 9)⟩, ⟨.some 28, .none, .ix (.t 26) (.t 27)⟩, ⟨.some 10, .none, .mv (.t 28)⟩]) (.block 2 (.seq (.rg false [⟨.some 32, .none, .mv (.t 10)⟩, ⟨.some 33, .none, .bin .eql (.t 32) (.c (.int .u8 34))⟩, ⟨.some 31, .none, .mv (.t 33)⟩]) (.cond (.t 31) (.seq (.rg true [⟨.some 34, .none, .mv (.t 5)⟩, ⟨.some 37, .none, .mv (.t 6)⟩, ⟨.some 38, .none, .mv (.t 9)⟩, ⟨.some 39, .none, .bin .add (.t 38) (.c (.int .i64 1))⟩, ⟨.some 40, .none, .slcS (.t 37) (.some (.t 39)) .none⟩, ⟨.some 35, .none, .call 26 .opn [.t 8]⟩, ⟨.some 36, .none, .build (.agg #[.string ⟨#[]⟩, .string ⟨#[]⟩]) [(0, (1, .t 34)), (1, (1, .t 35))]⟩, ⟨.none, .none, .st 2 (.t 2) (.t 36)⟩, ⟨.some 3, .none, .mv (.t 40)⟩, ⟨.some 4, .none, .mv (.c (.bool true))⟩]) .ret) (.seq (.rg false [⟨.some 42, .none, .mv (.t 10)⟩, ⟨.some 43, .none, .bin .eql (.t 42) (.c (.int .u8 92))⟩, ⟨.some 44, .none, .mv (.t 43)⟩, ⟨.some 45, .some (44, true), .mv (.t 9)⟩, ⟨.some 46, .some (44, true), .bin .add (.t 45) (.c (.int .i64 1))⟩, ⟨.some 47, .some (44, true), .mv (.t 6)⟩, ⟨.some 48, .some (44, true), .lenS (.t 47)⟩, ⟨.some 49, .some (44, true), .bin .lss (.t 46) (.t 48)⟩, ⟨.some 50, .none, .pick (.t 44) (.t 49) (.c (.bool false))⟩, ⟨.some 41, .none, .mv (.t 50)⟩]) (.cond (.t 41) (.seq (.rg false [⟨.some 51, .none, .mv (.t 9)⟩, ⟨.some 52, .none, .bin .add (.t 51) (.c (.int .i64 1))⟩, ⟨.some 9, .none, .mv (.t 52)⟩]) (.rg false [⟨.some 53, .none, .mv (.t 6)⟩, ⟨.some 54, .none, .mv (.t 9)⟩, ⟨.some 55, .none, .ix (.t 53) (.t 54)⟩, ⟨.some 56, .none, .call 217 .opn [.t 8, .t 55]⟩])) (.rg false [⟨.some 29, .none, .mv (.t 10)⟩, ⟨.some 30, .none, .call 217 .opn [.t 8, .t 29]⟩])))))))) (.rg false [⟨.some 24, .none, .mv (.t 9)⟩, ⟨.some 25, .none, .bin .add (.t 24) (.c (.int .i64 1))⟩, ⟨.some 9, .none, .mv (.t 25)⟩])))))) (.seq (.rg false [⟨.some 57, .none, .build (.agg #[.string ⟨#[]⟩, .string ⟨#[]⟩]) []⟩, ⟨.none, .none, .st 2 (.t 2) (.t 57)⟩, ⟨.some 3, .none, .mv (.c (.string ⟨#[]⟩))⟩, ⟨.some 4, .none, .mv (.c (.bool false))⟩]) .ret)))))))
def lcc : List (Nat × Def) := [(213, d213)]
def scan : List UInt8 → List UInt8 → Option (List UInt8 × List UInt8)
  | [], _ => none
  | [c], acc => if c = 34 then some (acc, []) else none
  | c :: d :: r, acc => if c = 34 then some (acc, d :: r) else if c = 92 then scan r (acc ++ [d]) else scan (d :: r) (acc ++ [c])
def oneL (s : List UInt8) : Option (List UInt8 × List UInt8 × List UInt8) :=
  if (Lib.cut s [61, 34]).2.2 then (scan (Lib.cut s [61, 34]).2.1 []).map fun q => ((Lib.cut s [61, 34]).1, q.1, q.2) else none
section
variable {env : Nat → Option Def} {fr : Fr} {σ σ' σ'' : St} {K : Fr → St → Prop} {Q : X → Fr → St → Prop} {p : PV} {bs : List UInt8}
theorem scan_nil {r acc : List UInt8} {i : Nat} (h : r.length ≤ i) : scan (r.drop i) acc = none := by
  rw [List.drop_eq_nil_of_le h]; rfl
theorem scan_end {r acc : List UInt8} {i : Nat} (h : i < r.length) (hc : r[i] = 34) : scan (r.drop i) acc = some (acc, r.drop (i + 1)) := by
  rw [drop_at h, hc]
  by_cases h2 : i + 1 < r.length
  · rw [drop_at h2]; rfl
  · rw [List.drop_eq_nil_of_le (by omega)]; rfl
theorem scan_esc {r acc : List UInt8} {i : Nat} (h : i + 1 < r.length) (hc : r[i] = 92) : scan (r.drop i) acc = scan (r.drop (i + 2)) (acc ++ [r[i + 1]]) := by
  rw [drop_at (by omega), hc, drop_at h]; rfl
theorem scan_last {r acc : List UInt8} {i : Nat} (h : i < r.length) (h2 : ¬ i + 1 < r.length) (hc : r[i] ≠ 34) : scan (r.drop i) acc = none := by
  rw [drop_at h, List.drop_eq_nil_of_le (by omega)]
  simp [scan, hc]
theorem scan_step {r acc : List UInt8} {i : Nat} (h : i < r.length) (hc : r[i] ≠ 34) (hd : r[i] ≠ 92) : scan (r.drop i) acc = scan (r.drop (i + 1)) (acc ++ [r[i]]) := by
  rw [drop_at h]
  by_cases h2 : i + 1 < r.length
  · rw [drop_at h2]; simp [scan, hc, hd]
  · rw [List.drop_eq_nil_of_le (by omega)]; simp [scan, hc]
theorem cut_le (s t : List UInt8) : (Lib.cut s t).1.length ≤ s.length ∧ (Lib.cut s t).2.1.length ≤ s.length := by
  unfold Lib.cut
  split
  · simp; omega
  · simp
def oneA (s : List UInt8) : PV := match oneL s with
  | some (n, v, r) => .tu [.agg [txt n, txt v], txt r, .sc (.bool true)]
  | none => .tu [.agg [txt [], txt []], txt [], .sc (.bool false)]
theorem a213 (C : Has lca env) (B : Has lbb env) (S : Has lbs env) (T : Has lcc env) {s : List UInt8} (hs : s.length ≤ 4000000000) : AV env 213 [txt s] = some (oneA s) := by
  have hcut := a39 C (s := s) (t := [61, 34]) (by omega) (by simp)
  obtain ⟨hl1, hl2⟩ := cut_le s [61, 34]
  have ho : oneL s = if (Lib.cut s [61, 34]).2.2 then (scan (Lib.cut s [61, 34]).2.1 []).map fun q => ((Lib.cut s [61, 34]).1, q.1, q.2) else none := rfl
  generalize Lib.cut s [61, 34] = c at *
  obtain ⟨n, rest, is⟩ := c
  simp only at hcut ho hl1 hl2
  have ho' : oneA s = match oneL s with
    | some (n, v, r) => .tu [.agg [txt n, txt v], txt r, .sc (.bool true)]
    | none => .tu [.agg [txt [], txt []], txt [], .sc (.bool false)] := rfl
  refine AV_wp (T (213, d213) (by simp [lcc])) rfl ?_
  (repeat' first
    | refine w_seq ?_ | refine w_rg ?_ | refine wo_nil ?_ | refine g_skU ?_ | refine g_skT ?_ | refine g_skF ?_
    | ((first | apply s_plain | apply s_void | apply s_guard | apply g_goT | apply g_goF); · simp only [go_sem, Nat.reduceEqDiff, Nat.reduceAdd, Nat.reduceLeDiff, hcut]; (first | done | rfl))
    | ((first | apply g_T | apply g_F | apply g_gT | apply g_gF); · intro q1_; (first | intro q2_ | have q2_ := q1_); simp only [go_sem, Nat.reduceEqDiff, Nat.reduceAdd, Nat.reduceLeDiff, hcut, q1_, q2_]; (first | done | rfl))
    | fail
    )
  cases is with
  | false =>
    rw [if_neg (by decide)] at ho
    rw [ho] at ho'
    (repeat' first
    | refine w_seq ?_ | refine w_rg ?_ | refine wo_nil ?_ | refine g_skU ?_ | refine g_skT ?_ | refine g_skF ?_
    | ((first | apply s_plain | apply s_void | apply s_guard | apply g_goT | apply g_goF); · simp only [go_sem, Nat.reduceEqDiff, Nat.reduceAdd, Nat.reduceLeDiff, splice, List.modify_zero_cons, fillP, fillE]; (first | done | rfl))
    | ((first | apply g_T | apply g_F | apply g_gT | apply g_gF); · intro q1_; (first | intro q2_ | have q2_ := q1_); simp only [go_sem, Nat.reduceEqDiff, Nat.reduceAdd, Nat.reduceLeDiff, splice, List.modify_zero_cons, fillP, fillE, q1_, q2_]; (first | done | rfl))
    | (apply w_condX; · simp only [go_sem, Nat.reduceEqDiff, Nat.reduceAdd, Nat.reduceLeDiff, splice, List.modify_zero_cons, fillP, fillE]; (first | done | rfl)); (first | refine wcd_T ?_ | refine wcd_F ?_)
    | refine w_skip ?_ | refine w_exit ?_ | refine w_ret ?_
    | fail
    )
    exact ⟨by first | exact .inr rfl | exact .inr trivial | exact .inl rfl, by simp only [go_sem, Nat.reduceEqDiff, Nat.reduceAdd, Nat.reduceLeDiff, retOf, resOf, ho', List.modify_zero_cons]; first | done | rfl⟩
  | true =>
    rw [if_pos rfl] at ho
    (repeat' first
    | refine w_seq ?_ | refine w_rg ?_ | refine wo_nil ?_ | refine g_skU ?_ | refine g_skT ?_ | refine g_skF ?_
    | ((first | apply s_plain | apply s_void | apply s_guard | apply g_goT | apply g_goF); · simp only [go_sem, Nat.reduceEqDiff, Nat.reduceAdd, Nat.reduceLeDiff, bldAt]; (first | done | rfl))
    | ((first | apply g_T | apply g_F | apply g_gT | apply g_gF); · intro q1_; (first | intro q2_ | have q2_ := q1_); simp only [go_sem, Nat.reduceEqDiff, Nat.reduceAdd, Nat.reduceLeDiff, bldAt, q1_, q2_]; (first | done | rfl))
    | (apply w_condX; · simp only [go_sem, Nat.reduceEqDiff, Nat.reduceAdd, Nat.reduceLeDiff, bldAt]; (first | done | rfl)); (first | refine wcd_T ?_ | refine wcd_F ?_)
    | refine w_skip ?_ | refine w_exit ?_ | refine w_ret ?_
    | fail
    )
    have hF0 : Fresh (St.nil.new 2000002 ⟨2, [.agg [txt [], txt []]], true, true⟩) := Fresh.nil.new _ _
    refine w_block (w_loopF (fun m fr σ => ∃ i acc, m = rest.length - i ∧ i ≤ rest.length ∧ fr 9 = .sc (.int .i64 i) ∧ Bld σ 0 acc ∧ Fresh σ ∧ acc.length ≤ i ∧ scan rest [] = scan (rest.drop i) acc ∧ σ.m 2000002 0 = some ⟨2, [.agg [txt [], txt []]], true, true⟩) ?_ (rest.length - 0) ?_)
    · rintro m fr1 σ1 ⟨i, acc, rfl, hi, f9, hb, hF, hal, hsc, hm⟩ hfr
      have f0_2 := hfr 2 rfl; have f0_5 := hfr 5 rfl; have f0_6 := hfr 6 rfl; have f0_8 := hfr 8 rfl; try (simp only [go_sem, Nat.reduceEqDiff, Nat.reduceAdd, Nat.reduceLeDiff] at f0_2); try (simp only [go_sem, Nat.reduceEqDiff, Nat.reduceAdd, Nat.reduceLeDiff] at f0_5); try (simp only [go_sem, Nat.reduceEqDiff, Nat.reduceAdd, Nat.reduceLeDiff] at f0_6); try (simp only [go_sem, Nat.reduceEqDiff, Nat.reduceAdd, Nat.reduceLeDiff] at f0_8)
      (repeat' first
    | refine w_seq ?_ | refine w_rg ?_ | refine wo_nil ?_ | refine g_skU ?_ | refine g_skT ?_ | refine g_skF ?_
    | ((first | apply s_plain | apply s_void | apply s_guard | apply g_goT | apply g_goF); · simp only [go_sem, Nat.reduceEqDiff, Nat.reduceAdd, Nat.reduceLeDiff, f0_2, f0_5, f0_6, f0_8, f9, ba_data, ba_size, ba_toList, ba_extract, ba_append, List.toList_toArray]; (first | done | rfl))
    | ((first | apply g_T | apply g_F | apply g_gT | apply g_gF); · intro q1_; (first | intro q2_ | have q2_ := q1_); simp only [go_sem, Nat.reduceEqDiff, Nat.reduceAdd, Nat.reduceLeDiff, f0_2, f0_5, f0_6, f0_8, f9, ba_data, ba_size, ba_toList, ba_extract, ba_append, List.toList_toArray, q1_, q2_]; (first | done | rfl))
    | fail
    )
      by_cases hlt : i < rest.length
      · have hlt' : decide ((i : Int) < (rest.length : Int)) = true := by simpa using hlt
        have hg := List.getElem?_eq_getElem hlt
        have hi0 : (0 : Int) ≤ (i : Int) := by omega
        have w1 : IntKind.i64.wrap ((i : Int) + 1) = ((i + 1 : Nat) : Int) := by rw [IntKind.wrap_i64]; omega
        rw [hlt']
        (repeat' first
    | refine w_seq ?_ | refine w_rg ?_ | refine wo_nil ?_ | refine g_skU ?_ | refine g_skT ?_ | refine g_skF ?_
    | ((first | apply s_plain | apply s_void | apply s_guard | apply g_goT | apply g_goF); · simp only [go_sem, Nat.reduceEqDiff, Nat.reduceAdd, Nat.reduceLeDiff]; (first | done | rfl))
    | ((first | apply g_T | apply g_F | apply g_gT | apply g_gF); · intro q1_; (first | intro q2_ | have q2_ := q1_); simp only [go_sem, Nat.reduceEqDiff, Nat.reduceAdd, Nat.reduceLeDiff, q1_, q2_]; (first | done | rfl))
    | (apply w_condX; · simp only [go_sem, Nat.reduceEqDiff, Nat.reduceAdd, Nat.reduceLeDiff]; (first | done | rfl)); (first | refine wcd_T ?_ | refine wcd_F ?_)
    | refine w_skip ?_ | refine w_exit ?_ | refine w_ret ?_
    | fail
    )
        refine w_block ?_
        (repeat' first
    | refine w_seq ?_ | refine w_rg ?_ | refine wo_nil ?_ | refine g_skU ?_ | refine g_skT ?_ | refine g_skF ?_
    | ((first | apply s_plain | apply s_void | apply s_guard | apply g_goT | apply g_goF); · simp only [go_sem, Nat.reduceEqDiff, Nat.reduceAdd, Nat.reduceLeDiff, f0_2, f0_5, f0_6, f0_8, f9, ba_data, ba_size, ba_toList, ba_extract, ba_append, List.toList_toArray, hi0, Int.toNat_natCast, hg]; (first | done | rfl))
    | ((first | apply g_T | apply g_F | apply g_gT | apply g_gF); · intro q1_; (first | intro q2_ | have q2_ := q1_); simp only [go_sem, Nat.reduceEqDiff, Nat.reduceAdd, Nat.reduceLeDiff, f0_2, f0_5, f0_6, f0_8, f9, ba_data, ba_size, ba_toList, ba_extract, ba_append, List.toList_toArray, hi0, Int.toNat_natCast, hg, q1_, q2_]; (first | done | rfl))
    | fail
    )
        refine w_block ?_
        (repeat' first
    | refine w_seq ?_ | refine w_rg ?_ | refine wo_nil ?_ | refine g_skU ?_ | refine g_skT ?_ | refine g_skF ?_
    | ((first | apply s_plain | apply s_void | apply s_guard | apply g_goT | apply g_goF); · simp only [go_sem, Nat.reduceEqDiff, Nat.reduceAdd, Nat.reduceLeDiff, f0_2, f0_5, f0_6, f0_8]; (first | done | rfl))
    | ((first | apply g_T | apply g_F | apply g_gT | apply g_gF); · intro q1_; (first | intro q2_ | have q2_ := q1_); simp only [go_sem, Nat.reduceEqDiff, Nat.reduceAdd, Nat.reduceLeDiff, f0_2, f0_5, f0_6, f0_8, q1_, q2_]; (first | done | rfl))
    | fail
    )
        refine w_condB (b := decide (rest[i] = 34)) (by simp only [go_sem, Nat.reduceEqDiff, Nat.reduceAdd, Nat.reduceLeDiff]; rw [← u8_eq]; rfl) (fun hc => ?_) (fun hc => ?_)
        · have hc : rest[i] = 34 := by simpa using hc
          rw [hsc, scan_end hlt hc] at ho
          have b1 : (0 : Int) ≤ ((i + 1 : Nat) : Int) ∧ ((i + 1 : Nat) : Int) ≤ (rest.length : Int) := by omega
          have hd : (rest.take rest.length).drop (i + 1) = rest.drop (i + 1) := by rw [List.take_of_length_le (Nat.le_refl _)]
          (repeat' first
    | refine w_seq ?_ | refine w_rg ?_ | refine wo_nil ?_ | refine g_skU ?_ | refine g_skT ?_ | refine g_skF ?_
    | ((first | apply s_plain | apply s_void | apply s_guard | apply g_goT | apply g_goF); · simp only [go_sem, Nat.reduceEqDiff, Nat.reduceAdd, Nat.reduceLeDiff, f0_2, f0_5, f0_6, f0_8, f9, w1, ba_data, ba_size, ba_toList, ba_extract, ba_append, List.toList_toArray, bound, b1, Int.toNat_natCast]; (first | done | rfl))
    | ((first | apply g_T | apply g_F | apply g_gT | apply g_gF); · intro q1_; (first | intro q2_ | have q2_ := q1_); simp only [go_sem, Nat.reduceEqDiff, Nat.reduceAdd, Nat.reduceLeDiff, f0_2, f0_5, f0_6, f0_8, f9, w1, ba_data, ba_size, ba_toList, ba_extract, ba_append, List.toList_toArray, bound, b1, Int.toNat_natCast, q1_, q2_]; (first | done | rfl))
    | fail
    )
          refine s_st S (g := 0) (bs := acc) (by simp only [go_sem, Nat.reduceEqDiff, Nat.reduceAdd, Nat.reduceLeDiff, f0_2, f0_5, f0_6, f0_8]; rfl) hb hF (by omega) ?_
          intro σ2 hk
          have hm2 := hk.m _ _ _ (by decide) (by decide) hm
          (repeat' first
    | refine w_seq ?_ | refine w_rg ?_ | refine wo_nil ?_ | refine g_skU ?_ | refine g_skT ?_ | refine g_skF ?_
    | ((first | apply s_plain | apply s_void | apply s_guard | apply g_goT | apply g_goF); · simp only [go_sem, Nat.reduceEqDiff, Nat.reduceAdd, Nat.reduceLeDiff, f0_2, f0_5, f0_6, f0_8, hm2, splice, fillP, fillE, List.modify_zero_cons]; (first | done | rfl))
    | ((first | apply g_T | apply g_F | apply g_gT | apply g_gF); · intro q1_; (first | intro q2_ | have q2_ := q1_); simp only [go_sem, Nat.reduceEqDiff, Nat.reduceAdd, Nat.reduceLeDiff, f0_2, f0_5, f0_6, f0_8, hm2, splice, fillP, fillE, List.modify_zero_cons, q1_, q2_]; (first | done | rfl))
    | (apply w_condX; · simp only [go_sem, Nat.reduceEqDiff, Nat.reduceAdd, Nat.reduceLeDiff, f0_2, f0_5, f0_6, f0_8, hm2, splice, fillP, fillE, List.modify_zero_cons]; (first | done | rfl)); (first | refine wcd_T ?_ | refine wcd_F ?_)
    | refine w_skip ?_ | refine w_exit ?_ | refine w_ret ?_
    | fail
    )
          simp only [Option.map_some] at ho
          rw [ho] at ho'
          exact ⟨by first | exact .inr rfl | exact .inr trivial | exact .inl rfl, by simp only [go_sem, Nat.reduceEqDiff, Nat.reduceAdd, Nat.reduceLeDiff, retOf, resOf, ho', f0_2, f0_5, f0_6, f0_8, List.modify_zero_cons, hd]; first | done | rfl⟩
        · have hc : rest[i] ≠ 34 := by simpa using hc
          (repeat' first
    | refine w_seq ?_ | refine w_rg ?_ | refine wo_nil ?_ | refine g_skU ?_ | refine g_skT ?_ | refine g_skF ?_
    | ((first | apply s_plain | apply s_void | apply s_guard | apply g_goT | apply g_goF); · simp only [go_sem, Nat.reduceEqDiff, Nat.reduceAdd, Nat.reduceLeDiff, f0_2, f0_5, f0_6, f0_8, f9, w1, ba_data, ba_size, ba_toList, ba_extract, ba_append, List.toList_toArray]; (first | done | rfl))
    | ((first | apply g_T | apply g_F | apply g_gT | apply g_gF); · intro q1_; (first | intro q2_ | have q2_ := q1_); simp only [go_sem, Nat.reduceEqDiff, Nat.reduceAdd, Nat.reduceLeDiff, f0_2, f0_5, f0_6, f0_8, f9, w1, ba_data, ba_size, ba_toList, ba_extract, ba_append, List.toList_toArray, q1_, q2_]; (first | done | rfl))
    | fail
    )
          refine w_condB (b := decide (rest[i] = 92) && decide (((i + 1 : Nat) : Int) < (rest.length : Int))) (by simp only [go_sem, Nat.reduceEqDiff, Nat.reduceAdd, Nat.reduceLeDiff]; rw [← u8_eq]; rfl) (fun hd => ?_) (fun hd => ?_)
          · simp only [Bool.and_eq_true, decide_eq_true_eq] at hd
            have hlt2 : i + 1 < rest.length := by omega
            have hg2 := List.getElem?_eq_getElem hlt2
            have hi2 : (0 : Int) ≤ ((i + 1 : Nat) : Int) := by omega
            have w2 : IntKind.i64.wrap (((i + 1 : Nat) : Int) + 1) = ((i + 2 : Nat) : Int) := by rw [IntKind.wrap_i64]; omega
            rw [scan_esc hlt2 hd.1] at hsc
            (repeat' first
    | refine w_seq ?_ | refine w_rg ?_ | refine wo_nil ?_ | refine g_skU ?_ | refine g_skT ?_ | refine g_skF ?_
    | ((first | apply s_plain | apply s_void | apply s_guard | apply g_goT | apply g_goF); · simp only [go_sem, Nat.reduceEqDiff, Nat.reduceAdd, Nat.reduceLeDiff, f0_2, f0_5, f0_6, f0_8, f9, w1, ba_data, ba_size, ba_toList, ba_extract, ba_append, List.toList_toArray, hi2, Int.toNat_natCast, hg2]; (first | done | rfl))
    | ((first | apply g_T | apply g_F | apply g_gT | apply g_gF); · intro q1_; (first | intro q2_ | have q2_ := q1_); simp only [go_sem, Nat.reduceEqDiff, Nat.reduceAdd, Nat.reduceLeDiff, f0_2, f0_5, f0_6, f0_8, f9, w1, ba_data, ba_size, ba_toList, ba_extract, ba_append, List.toList_toArray, hi2, Int.toNat_natCast, hg2, q1_, q2_]; (first | done | rfl))
    | fail
    )
            refine s_wb B (g := 0) (bs := acc) (c := rest[i + 1]) (by simp only [go_sem, Nat.reduceEqDiff, Nat.reduceAdd, Nat.reduceLeDiff, f0_2, f0_5, f0_6, f0_8]; rfl) (by simp only [go_sem, Nat.reduceEqDiff, Nat.reduceAdd, Nat.reduceLeDiff]) hb hF (by omega) ?_
            intro σ2 hb2 hk
            have hm2 := hk.m _ _ _ (by decide) (by decide) hm
            (repeat' first
    | refine w_seq ?_ | refine w_rg ?_ | refine wo_nil ?_ | refine g_skU ?_ | refine g_skT ?_ | refine g_skF ?_
    | ((first | apply s_plain | apply s_void | apply s_guard | apply g_goT | apply g_goF); · simp only [go_sem, Nat.reduceEqDiff, Nat.reduceAdd, Nat.reduceLeDiff, w2]; (first | done | rfl))
    | ((first | apply g_T | apply g_F | apply g_gT | apply g_gF); · intro q1_; (first | intro q2_ | have q2_ := q1_); simp only [go_sem, Nat.reduceEqDiff, Nat.reduceAdd, Nat.reduceLeDiff, w2, q1_, q2_]; (first | done | rfl))
    | fail
    )
            exact ⟨_, by omega, i + 2, acc ++ [rest[i + 1]], rfl, by omega, by simp only [go_sem, Nat.reduceEqDiff, Nat.reduceAdd, Nat.reduceLeDiff], hb2, hk.f, by simp; omega, hsc, hm2⟩
          · (repeat' first
    | refine w_seq ?_ | refine w_rg ?_ | refine wo_nil ?_ | refine g_skU ?_ | refine g_skT ?_ | refine g_skF ?_
    | ((first | apply s_plain | apply s_void | apply s_guard | apply g_goT | apply g_goF); · simp only [go_sem, Nat.reduceEqDiff, Nat.reduceAdd, Nat.reduceLeDiff, f0_2, f0_5, f0_6, f0_8]; (first | done | rfl))
    | ((first | apply g_T | apply g_F | apply g_gT | apply g_gF); · intro q1_; (first | intro q2_ | have q2_ := q1_); simp only [go_sem, Nat.reduceEqDiff, Nat.reduceAdd, Nat.reduceLeDiff, f0_2, f0_5, f0_6, f0_8, q1_, q2_]; (first | done | rfl))
    | fail
    )
            refine s_wb B (g := 0) (bs := acc) (c := rest[i]) (by simp only [go_sem, Nat.reduceEqDiff, Nat.reduceAdd, Nat.reduceLeDiff, f0_2, f0_5, f0_6, f0_8]; rfl) (by simp only [go_sem, Nat.reduceEqDiff, Nat.reduceAdd, Nat.reduceLeDiff]) hb hF (by omega) ?_
            intro σ2 hb2 hk
            have hm2 := hk.m _ _ _ (by decide) (by decide) hm
            (repeat' first
    | refine w_seq ?_ | refine w_rg ?_ | refine wo_nil ?_ | refine g_skU ?_ | refine g_skT ?_ | refine g_skF ?_
    | ((first | apply s_plain | apply s_void | apply s_guard | apply g_goT | apply g_goF); · simp only [go_sem, Nat.reduceEqDiff, Nat.reduceAdd, Nat.reduceLeDiff, f9, w1]; (first | done | rfl))
    | ((first | apply g_T | apply g_F | apply g_gT | apply g_gF); · intro q1_; (first | intro q2_ | have q2_ := q1_); simp only [go_sem, Nat.reduceEqDiff, Nat.reduceAdd, Nat.reduceLeDiff, f9, w1, q1_, q2_]; (first | done | rfl))
    | fail
    )
            have hs2 : scan rest [] = scan (rest.drop (i + 1)) (acc ++ [rest[i]]) := by
              by_cases h92 : rest[i] = 92
              · have hn : ¬ i + 1 < rest.length := by
                  intro h
                  rw [Bool.and_eq_false_iff] at hd
                  rcases hd with hd | hd
                  · simp [h92] at hd
                  · simp only [decide_eq_false_iff_not] at hd; omega
                rw [hsc, scan_last hlt hn hc, scan_nil (by omega)]
              · rw [hsc, scan_step hlt hc h92]
            exact ⟨_, by omega, i + 1, acc ++ [rest[i]], rfl, by omega, by simp only [go_sem, Nat.reduceEqDiff, Nat.reduceAdd, Nat.reduceLeDiff], hb2, hk.f, by simp; omega, hs2, hm2⟩
      · have hlt' : decide ((i : Int) < (rest.length : Int)) = false := by simpa using (show ¬ ((i : Int) < (rest.length : Int)) by omega)
        rw [hlt']
        rw [hsc, scan_nil (by omega)] at ho
        simp only [Option.map_none] at ho
        rw [ho] at ho'
        (repeat' first
    | refine w_seq ?_ | refine w_rg ?_ | refine wo_nil ?_ | refine g_skU ?_ | refine g_skT ?_ | refine g_skF ?_
    | ((first | apply s_plain | apply s_void | apply s_guard | apply g_goT | apply g_goF); · simp only [go_sem, Nat.reduceEqDiff, Nat.reduceAdd, Nat.reduceLeDiff]; (first | done | rfl))
    | ((first | apply g_T | apply g_F | apply g_gT | apply g_gF); · intro q1_; (first | intro q2_ | have q2_ := q1_); simp only [go_sem, Nat.reduceEqDiff, Nat.reduceAdd, Nat.reduceLeDiff, q1_, q2_]; (first | done | rfl))
    | (apply w_condX; · simp only [go_sem, Nat.reduceEqDiff, Nat.reduceAdd, Nat.reduceLeDiff]; (first | done | rfl)); (first | refine wcd_T ?_ | refine wcd_F ?_)
    | refine w_skip ?_ | refine w_exit ?_ | refine w_ret ?_
    | fail
    )
        try simp only [if_true]
        (repeat' first
    | refine w_seq ?_ | refine w_rg ?_ | refine wo_nil ?_ | refine g_skU ?_ | refine g_skT ?_ | refine g_skF ?_
    | ((first | apply s_plain | apply s_void | apply s_guard | apply g_goT | apply g_goF); · simp only [go_sem, Nat.reduceEqDiff, Nat.reduceAdd, Nat.reduceLeDiff, f0_2, f0_5, f0_6, f0_8, hm, splice, fillP, fillE, List.modify_zero_cons]; (first | done | rfl))
    | ((first | apply g_T | apply g_F | apply g_gT | apply g_gF); · intro q1_; (first | intro q2_ | have q2_ := q1_); simp only [go_sem, Nat.reduceEqDiff, Nat.reduceAdd, Nat.reduceLeDiff, f0_2, f0_5, f0_6, f0_8, hm, splice, fillP, fillE, List.modify_zero_cons, q1_, q2_]; (first | done | rfl))
    | (apply w_condX; · simp only [go_sem, Nat.reduceEqDiff, Nat.reduceAdd, Nat.reduceLeDiff, f0_2, f0_5, f0_6, f0_8, hm, splice, fillP, fillE, List.modify_zero_cons]; (first | done | rfl)); (first | refine wcd_T ?_ | refine wcd_F ?_)
    | refine w_skip ?_ | refine w_exit ?_ | refine w_ret ?_
    | fail
    )
        exact ⟨by first | exact .inr rfl | exact .inr trivial | exact .inl rfl, by simp only [go_sem, Nat.reduceEqDiff, Nat.reduceAdd, Nat.reduceLeDiff, retOf, resOf, ho', f0_2, f0_5, f0_6, f0_8, List.modify_zero_cons]; first | done | rfl⟩
    · exact ⟨0, [], rfl, Nat.zero_le _, by simp only [go_sem, Nat.reduceEqDiff, Nat.reduceAdd, Nat.reduceLeDiff]; (first | done | rfl), bld_new _, hF0.new _ _, Nat.le_refl _, by rw [List.drop_zero], by simp only [go_sem, Nat.reduceEqDiff, Nat.reduceAdd, Nat.reduceLeDiff, bldAt]⟩
end

section
def mkLab (n v : List UInt8) : Lab := (⟨n.toArray⟩, ⟨v.toArray⟩)
def pl : Nat → List UInt8 → List Lab → Option (List Lab)
  | 0, _, out => some out
  | k + 1, rest, out => if rest = [125] then some out else if out ≠ [] ∧ [44].isPrefixOf rest = false then none else
      (oneL (if out = [] then rest else cutPre rest [44])).bind fun q => pl k q.2.2 (out ++ [mkLab q.1 q.2.1])
end

end
section
def itoaS (n : Int) : ByteArray := ⟨(Lib.itoa n).toArray⟩
structure RightR (r : Rule) : Prop where
  how : 1 ≤ r.how ∧ r.how ≤ 5
  limit : -1099511627776 ≤ r.limit ∧ r.limit ≤ 1099511627776
  for_ : -1099511627776 ≤ r.for_ ∧ r.for_ ≤ 1099511627776
  keep : -1099511627776 ≤ r.keep ∧ r.keep ≤ 1099511627776
  tries : -1099511627776 ≤ r.tries ∧ r.tries ≤ 1099511627776
  labels : rightL r.labels = true

end
section
attribute [local go_sem ↓] e_mv e_pick e_bin e_eqs e_beq e_un e_cvi e_str e_s2b e_b2s e_box e_build e_bsl e_ld e_st e_nck e_mkf e_slcS e_slcL e_fa e_fld e_ia e_iaa e_ix e_ixa e_ext e_lenS e_lenL e_mnmx e_app e_appb e_bbx e_msl e_clr e_call e_callv e_icall e_slcA e_mkm e_mput e_mget e_mlen e_mdel pa_t pa_c pa_f slcSP_str hiOf_some hiOf_none loOf_some loOf_none set_eq set_ne
attribute [local go_sem] pv pv1 simple frOf_0 frOf_1 frOf_2 frOf_3 frOf_4 frOf_5 ne_eq not_false_eq_true if_true Bool.false_eq_true if_false pbin punary Option.map_some Option.bind_some pick_and pick_or opt_true Bool.true_and Bool.and_self Bool.and_true Bool.true_or Bool.false_or Bool.not_true Bool.not_false callE pcall_eq List.map_cons List.map_nil List.append_nil List.nil_append List.cons_append mapM_cons' mapM_nil' dep_eq fz_sc fz_sl fz_em fz_fn fz_fp fz_agg fz_tu fz_bx fz_ob Nat.lt_irrefl Nat.zero_lt_one Nat.lt_add_one flat clL cl Bool.or_true okc_sc okc_em okc_sl okc_ob okc_bx okc_fp okc_fn okc_agg okc_ifc cells_agg cells_sc cells_sl cells_em cells_ob cells_fn cells_bx cells_fp List.length_cons List.length_nil Nat.zero_add and_self true_and and_true new_m new_c put_m put_c nil_m nil_c nil_mm new_mm put_mm newM_m newM_c newM_mm putM_m putM_c putM_mm mkeyV_1 mkeyV_2 mapAt_eq deref List.getElem?_cons_zero List.getElem?_cons_succ List.drop_zero List.drop_succ_cons List.take_succ_cons List.take_zero Nat.le_refl false_and and_false decide_true decide_false lenP_em lenP_nil lenP_sl lenP_ob Int.ofNat_zero
def d36 : Def := (.code 2 [.tmp 4] (.seq (.rg false [⟨.some 4, .none, .mv (.c (.bool false))⟩]) (.seq (.seq (.rg false [⟨.some 6, .none, .mv (.t 0)⟩, ⟨.some 7, .none, .lenL (.t 6)⟩, ⟨.some 8, .none, .mv (.t 1)⟩, ⟨.some 9, .none, .lenL (.t 8)⟩, ⟨.some 10, .none, .bin .neq (.t 7) (.t 9)⟩]) (.cond (.t 10) (.seq (.rg false [⟨.some 4, .none, .mv (.c (.bool false))⟩]) .ret) .skip)) (.seq (.seq (.rg false [⟨.some 11, .none, .mv (.t 0)⟩, ⟨.some 12, .none, .lenL (.t 11)⟩, ⟨.some 13, .none, .mv (.c (.int .i64 0))⟩]) (.block 0 (.loop (.seq (.rg false [⟨.some 14, .none, .bin .lss (.t 13) (.t 12)⟩]) (.seq (.cond (.t 14) .skip (.exit 0)) (.seq (.block 1 (.seq (.rg false [⟨.some 15, .none, .mv (.t 13)⟩, ⟨.some 5, .none, .mv (.t 15)⟩]) (.seq (.rg true [⟨.some 16, .none, .mv (.t 0)⟩, ⟨.some 17, .none, .mv (.t 5)⟩, ⟨.some 18, .none, .ia 1 (.t 16) (.t 17)⟩, ⟨.some 19, .none, .ld .none (.t 18)⟩, ⟨.some 20, .none, .mv (.t 1)⟩, ⟨.some 21, .none, .mv (.t 5)⟩, ⟨.some 22, .none, .ia 1 (.t 20) (.t 21)⟩, ⟨.some 23, .none, .ld .none (.t 22)⟩, ⟨.some 24, .none, .bin .neq (.t 19) (.t 23)⟩]) (.cond (.t 24) (.seq (.rg false [⟨.some 4, .none, .mv (.c (.bool false))⟩]) .ret) .skip)))) (.rg false [⟨.some 25, .none, .bin .add (.t 13) (.c (.int .i64 1))⟩, ⟨.some 13, .none, .mv (.t 25)⟩]))))))) (.seq (.rg false [⟨.some 4, .none, .mv (.c (.bool true))⟩]) .ret)))))
def lha : List (Nat × Def) := [(203, .prim (pureF itoaF))]
def lhd : List (Nat × Def) := [(36, d36)]
section
variable {env : Nat → Option Def} {fr : Fr} {σ : St} {K : Fr → St → Prop} {Q : X → Fr → St → Prop}
theorem a203 (A : Has lha env) {n : Int} (h1 : -9223372036854775808 ≤ n) (h2 : n ≤ 9223372036854775807) : AV env 203 [.sc (.int .i64 n)] = some (.sc (.string (itoaS n))) := by
  have h := A (203, .prim (pureF itoaF)) (by simp [lha])
  refine AV_of (σ := St.nil) (r := .sc (.string (itoaS n))) ?_ rfl
  rw [EV_prim h]
  simp only [pureF, mapM_cons', mapM_nil', scOf, Option.bind_some, itoaF, if_pos (And.intro h1 h2), Option.map_some]
  rfl
end

section
variable {env : Nat → Option Def} {fr : Fr} {σ σ' σ'' : St} {K : Fr → St → Prop} {Q : X → Fr → St → Prop} {p : PV} {bs : List UInt8}
theorem ba_inj {a b : ByteArray} (h : a.toList = b.toList) : a = b := by
  rw [ByteArray.toList_eq, ByteArray.toList_eq] at h
  exact ByteArray.ext (Array.toList_inj.1 h)
theorem ba_beq (a b : ByteArray) : (a.toList == b.toList) = decide (a = b) := by
  rw [Bool.eq_iff_iff, beq_iff_eq, decide_eq_true_iff]
  exact ⟨ba_inj, fun h => by rw [h]⟩
theorem a36 (D : Has lhd env) {a b : List ByteArray} (hn : a.length ≤ 9223372036854775807) : AV env 36 [.sl (strs a), .sl (strs b)] = some (.sc (.bool (decide (a = b)))) := by
  refine AV_wp (D (36, d36) (by simp [lhd])) rfl ?_
  have hla := strs_len a
  have hlb := strs_len b
  (repeat' first
    | refine w_seq ?_ | refine w_rg ?_ | refine wo_nil ?_ | refine g_skU ?_ | refine g_skT ?_ | refine g_skF ?_
    | ((first | apply s_plain | apply s_void | apply s_guard | apply g_goT | apply g_goF); · simp only [go_sem, Nat.reduceEqDiff, Nat.reduceAdd, Nat.reduceLeDiff, hla, hlb]; (first | done | rfl))
    | ((first | apply g_T | apply g_F | apply g_gT | apply g_gF); · intro q1_; (first | intro q2_ | have q2_ := q1_); simp only [go_sem, Nat.reduceEqDiff, Nat.reduceAdd, Nat.reduceLeDiff, hla, hlb, q1_, q2_]; (first | done | rfl))
    | fail
    )
  by_cases hl : a.length = b.length
  · have hc : ((a.length : Int) != (b.length : Int)) = false := by rw [hl]; simp
    (repeat' first
    | refine w_seq ?_ | refine w_rg ?_ | refine wo_nil ?_ | refine g_skU ?_ | refine g_skT ?_ | refine g_skF ?_
    | ((first | apply s_plain | apply s_void | apply s_guard | apply g_goT | apply g_goF); · simp only [go_sem, Nat.reduceEqDiff, Nat.reduceAdd, Nat.reduceLeDiff, hc]; (first | done | rfl))
    | ((first | apply g_T | apply g_F | apply g_gT | apply g_gF); · intro q1_; (first | intro q2_ | have q2_ := q1_); simp only [go_sem, Nat.reduceEqDiff, Nat.reduceAdd, Nat.reduceLeDiff, hc, q1_, q2_]; (first | done | rfl))
    | (apply w_condX; · simp only [go_sem, Nat.reduceEqDiff, Nat.reduceAdd, Nat.reduceLeDiff, hc]; (first | done | rfl)); (first | refine wcd_T ?_ | refine wcd_F ?_)
    | refine w_skip ?_ | refine w_exit ?_ | refine w_ret ?_
    | fail
    )
    (repeat' first
    | refine w_seq ?_ | refine w_rg ?_ | refine wo_nil ?_ | refine g_skU ?_ | refine g_skT ?_ | refine g_skF ?_
    | ((first | apply s_plain | apply s_void | apply s_guard | apply g_goT | apply g_goF); · simp only [go_sem, Nat.reduceEqDiff, Nat.reduceAdd, Nat.reduceLeDiff, hla]; (first | done | rfl))
    | ((first | apply g_T | apply g_F | apply g_gT | apply g_gF); · intro q1_; (first | intro q2_ | have q2_ := q1_); simp only [go_sem, Nat.reduceEqDiff, Nat.reduceAdd, Nat.reduceLeDiff, hla, q1_, q2_]; (first | done | rfl))
    | fail
    )
    refine w_block (w_rangeF a.length hn (fun i fr σ => ∀ j, j < i → a[j]? = b[j]?) ⟨by decide, rfl, rfl⟩ (fun _ _ _ _ h => ⟨h, h, h⟩) (fun j hj => by omega) (by simp only [go_sem, Nat.reduceEqDiff, Nat.reduceAdd, Nat.reduceLeDiff]; first | done | rfl) (by simp only [go_sem, Nat.reduceEqDiff, Nat.reduceAdd, Nat.reduceLeDiff, hla]; first | done | rfl) ?_ ?_)
    · rintro i fr1 σ1 hi h3 hti hfr
      have f0_0 := hfr 0 rfl; have f0_1 := hfr 1 rfl; have f0_12 := hfr 12 rfl; try (simp only [go_sem, Nat.reduceEqDiff, Nat.reduceAdd, Nat.reduceLeDiff] at f0_0); try (simp only [go_sem, Nat.reduceEqDiff, Nat.reduceAdd, Nat.reduceLeDiff] at f0_1); try (simp only [go_sem, Nat.reduceEqDiff, Nat.reduceAdd, Nat.reduceLeDiff] at f0_12)
      have hi2 : i < b.length := by omega
      have qa := List.getElem?_eq_getElem hi
      have qb := List.getElem?_eq_getElem hi2
      have hx := strs_at qa
      have hy := strs_at qb
      have e1 : (0 : Int) ≤ (i : Int) ∧ (i : Int) < (a.length : Int) := by omega
      have e2 : (0 : Int) ≤ (i : Int) ∧ (i : Int) < (b.length : Int) := by omega
      refine w_block ?_
      (repeat' first
    | refine w_seq ?_ | refine w_rg ?_ | refine wo_nil ?_ | refine g_skU ?_ | refine g_skT ?_ | refine g_skF ?_
    | ((first | apply s_plain | apply s_void | apply s_guard | apply g_goT | apply g_goF); · simp only [go_sem, Nat.reduceEqDiff, Nat.reduceAdd, Nat.reduceLeDiff, f0_0, f0_1, f0_12, hti, e1, e2, hla, hlb, Int.toNat_natCast, hx, hy, ba_beq]; (first | done | rfl))
    | ((first | apply g_T | apply g_F | apply g_gT | apply g_gF); · intro q1_; (first | intro q2_ | have q2_ := q1_); simp only [go_sem, Nat.reduceEqDiff, Nat.reduceAdd, Nat.reduceLeDiff, f0_0, f0_1, f0_12, hti, e1, e2, hla, hlb, Int.toNat_natCast, hx, hy, ba_beq, q1_, q2_]; (first | done | rfl))
    | fail
    )
      by_cases he : a[i] = b[i]
      · have hb : (!(decide (a[i] = b[i]))) = false := by simp [he]
        (repeat' first
    | refine w_seq ?_ | refine w_rg ?_ | refine wo_nil ?_ | refine g_skU ?_ | refine g_skT ?_ | refine g_skF ?_
    | ((first | apply s_plain | apply s_void | apply s_guard | apply g_goT | apply g_goF); · simp only [go_sem, Nat.reduceEqDiff, Nat.reduceAdd, Nat.reduceLeDiff, hb]; (first | done | rfl))
    | ((first | apply g_T | apply g_F | apply g_gT | apply g_gF); · intro q1_; (first | intro q2_ | have q2_ := q1_); simp only [go_sem, Nat.reduceEqDiff, Nat.reduceAdd, Nat.reduceLeDiff, hb, q1_, q2_]; (first | done | rfl))
    | (apply w_condX; · simp only [go_sem, Nat.reduceEqDiff, Nat.reduceAdd, Nat.reduceLeDiff, hb]; (first | done | rfl)); (first | refine wcd_T ?_ | refine wcd_F ?_)
    | refine w_skip ?_ | refine w_exit ?_ | refine w_ret ?_
    | fail
    )
        intro j hj
        by_cases hji : j = i
        · rw [hji, qa, qb, he]
        · exact h3 j (by omega)
      · have hb : (!(decide (a[i] = b[i]))) = true := by simp [he]
        have hne : a ≠ b := fun h => he (by subst h; rfl)
        (repeat' first
    | refine w_seq ?_ | refine w_rg ?_ | refine wo_nil ?_ | refine g_skU ?_ | refine g_skT ?_ | refine g_skF ?_
    | ((first | apply s_plain | apply s_void | apply s_guard | apply g_goT | apply g_goF); · simp only [go_sem, Nat.reduceEqDiff, Nat.reduceAdd, Nat.reduceLeDiff, hb]; (first | done | rfl))
    | ((first | apply g_T | apply g_F | apply g_gT | apply g_gF); · intro q1_; (first | intro q2_ | have q2_ := q1_); simp only [go_sem, Nat.reduceEqDiff, Nat.reduceAdd, Nat.reduceLeDiff, hb, q1_, q2_]; (first | done | rfl))
    | (apply w_condX; · simp only [go_sem, Nat.reduceEqDiff, Nat.reduceAdd, Nat.reduceLeDiff, hb]; (first | done | rfl)); (first | refine wcd_T ?_ | refine wcd_F ?_)
    | refine w_skip ?_ | refine w_exit ?_ | refine w_ret ?_
    | fail
    )
        exact ⟨by first | exact .inr rfl | exact .inr trivial | exact .inl rfl, by simp only [go_sem, Nat.reduceEqDiff, Nat.reduceAdd, Nat.reduceLeDiff, retOf, resOf, decide_eq_false hne]; first | done | rfl⟩
    · rintro fr1 σ1 h3 hfr
      try simp only [if_true]
      have heq : a = b := List.ext_getElem? fun i => by
        by_cases hi : i < a.length
        · exact h3 i hi
        · rw [List.getElem?_eq_none (by omega), List.getElem?_eq_none (by omega)]
      (repeat' first
    | refine w_seq ?_ | refine w_rg ?_ | refine wo_nil ?_ | refine g_skU ?_ | refine g_skT ?_ | refine g_skF ?_
    | ((first | apply s_plain | apply s_void | apply s_guard | apply g_goT | apply g_goF); · simp only [go_sem, Nat.reduceEqDiff, Nat.reduceAdd, Nat.reduceLeDiff]; (first | done | rfl))
    | ((first | apply g_T | apply g_F | apply g_gT | apply g_gF); · intro q1_; (first | intro q2_ | have q2_ := q1_); simp only [go_sem, Nat.reduceEqDiff, Nat.reduceAdd, Nat.reduceLeDiff, q1_, q2_]; (first | done | rfl))
    | (apply w_condX; · simp only [go_sem, Nat.reduceEqDiff, Nat.reduceAdd, Nat.reduceLeDiff]; (first | done | rfl)); (first | refine wcd_T ?_ | refine wcd_F ?_)
    | refine w_skip ?_ | refine w_exit ?_ | refine w_ret ?_
    | fail
    )
      exact ⟨by first | exact .inr rfl | exact .inr trivial | exact .inl rfl, by simp only [go_sem, Nat.reduceEqDiff, Nat.reduceAdd, Nat.reduceLeDiff, retOf, resOf, decide_eq_true heq]; first | done | rfl⟩
  · have hc : ((a.length : Int) != (b.length : Int)) = true := by simp; omega
    have hne : a ≠ b := fun h => hl (by rw [h])
    (repeat' first
    | refine w_seq ?_ | refine w_rg ?_ | refine wo_nil ?_ | refine g_skU ?_ | refine g_skT ?_ | refine g_skF ?_
    | ((first | apply s_plain | apply s_void | apply s_guard | apply g_goT | apply g_goF); · simp only [go_sem, Nat.reduceEqDiff, Nat.reduceAdd, Nat.reduceLeDiff, hc]; (first | done | rfl))
    | ((first | apply g_T | apply g_F | apply g_gT | apply g_gF); · intro q1_; (first | intro q2_ | have q2_ := q1_); simp only [go_sem, Nat.reduceEqDiff, Nat.reduceAdd, Nat.reduceLeDiff, hc, q1_, q2_]; (first | done | rfl))
    | (apply w_condX; · simp only [go_sem, Nat.reduceEqDiff, Nat.reduceAdd, Nat.reduceLeDiff, hc]; (first | done | rfl)); (first | refine wcd_T ?_ | refine wcd_F ?_)
    | refine w_skip ?_ | refine w_exit ?_ | refine w_ret ?_
    | fail
    )
    exact ⟨by first | exact .inr rfl | exact .inr trivial | exact .inl rfl, by simp only [go_sem, Nat.reduceEqDiff, Nat.reduceAdd, Nat.reduceLeDiff, retOf, resOf, decide_eq_false hne]; first | done | rfl⟩
end

end
section
structure Mt where
  n : ByteArray
  how : Int
  ws : List ByteArray
  deriving DecidableEq
def mt (m : Mt) : PV := .agg [.sc (.string m.n), .sc (.int .i64 m.how), .sl (strs m.ws)]
def mts (l : List Mt) : List PV := l.map mt
structure Rh where
  recv : ByteArray
  ms : List Mt
  bys : List ByteArray
  wait : Int
  every : Int
  rep : Int
  mute : List ByteArray
  on : Bool
  deriving DecidableEq
inductive Rt where
  | mk (h : Rh) (ks : List Rt)
def Rt.h : Rt → Rh
  | .mk h _ => h
def Rt.ks : Rt → List Rt
  | .mk _ ks => ks
def rhd (h : Rh) (k : PV) : PV := .agg [.sc (.string h.recv), .sl (mts h.ms), .sl (strs h.bys), .sc (.int .i64 h.wait), .sc (.int .i64 h.every), .sc (.int .i64 h.rep), .sl (strs h.mute), .sc (.bool h.on), k]
mutual
def rt : Rt → PV
  | .mk h ks => rhd h (.sl (rts ks))
def rts : List Rt → List PV
  | [] => []
  | r :: l => rt r :: rts l
end
theorem rts_map : ∀ l : List Rt, rts l = l.map rt
  | [] => rfl
  | r :: l => by rw [rts, rts_map l]; rfl
theorem rt_eq (r : Rt) : rt r = rhd r.h (.sl (rts r.ks)) := by cases r; rw [rt]; rfl
theorem rts_len (l : List Rt) : (rts l).length = l.length := by rw [rts_map, List.length_map]
theorem rts_at {l : List Rt} {i : Nat} {r : Rt} (h : l[i]? = some r) : (rts l)[i]? = some (rt r) := by rw [rts_map, List.getElem?_map, h]; rfl
theorem mts_len (l : List Mt) : (mts l).length = l.length := by simp [mts]
theorem mts_at {l : List Mt} {i : Nat} {m : Mt} (h : l[i]? = some m) : (mts l)[i]? = some (mt m) := by simp [mts, h]
theorem Rt.induct {p : Rt → Prop} (h : ∀ hd ks, (∀ k ∈ ks, p k) → p (.mk hd ks)) : ∀ r, p r
  | .mk hd ks => h hd ks fun k hk => Rt.induct h k
termination_by r => SizeOf.sizeOf r
decreasing_by
  have := List.sizeOf_lt_of_mem hk
  simp only [Rt.mk.sizeOf_spec]
  omega
/-! what is held in memory -/
structure Mt.Held (m : Mt) : Prop where
  n : Small m.n
  ws : m.ws.length ≤ 9223372036854775807
  wss : ∀ w ∈ m.ws, Small w
structure Rh.Held (h : Rh) : Prop where
  recv : Small h.recv
  ms : h.ms.length ≤ 9223372036854775807
  mss : ∀ m ∈ h.ms, m.Held
  bys : h.bys.length ≤ 9223372036854775807
  byss : ∀ w ∈ h.bys, Small w
  mute : h.mute.length ≤ 9223372036854775807
  mutes : ∀ w ∈ h.mute, Small w
inductive Rt.Held : Rt → Prop
  | mk (h : Rh) (ks : List Rt) : h.Held → ks.length ≤ 9223372036854775807 → (∀ k ∈ ks, Rt.Held k) → Rt.Held (.mk h ks)
/-! counting -/
mutual
def cntR : Rt → Nat
  | .mk _ ks => 1 + cntL ks
def cntL : List Rt → Nat
  | [] => 0
  | k :: l => cntR k + cntL l
end
theorem cntR_mk (h : Rh) (ks : List Rt) : cntR (.mk h ks) = 1 + cntL ks := by rw [cntR]
theorem cntL_append : ∀ (a b : List Rt), cntL (a ++ b) = cntL a + cntL b
  | [], b => by simp [cntL]
  | k :: a, b => by rw [List.cons_append, cntL, cntL, cntL_append a b]; omega
theorem cntL_one (k : Rt) : cntL [k] = cntR k := by simp [cntL]
theorem cntL_take {l : List Rt} {i : Nat} (h : i < l.length) : cntL (l.take (i + 1)) = cntL (l.take i) + cntR l[i] := by
  rw [List.take_succ_eq_append_getElem h, cntL_append, cntL_one]
/-! what is the same -/
mutual
def likeT : Rt → Rt → Bool
  | .mk h ks, .mk h' ks' => decide (h = h') && likeLs ks ks'
def likeLs : List Rt → List Rt → Bool
  | [], [] => true
  | a :: l, b :: m => likeT a b && likeLs l m
  | _, _ => false
end
theorem likeT_refl : ∀ r : Rt, likeT r r = true := by
  refine Rt.induct fun h ks ih => ?_
  rw [likeT, decide_eq_true rfl, Bool.true_and]
  clear h
  induction ks with
  | nil => rw [likeLs]
  | cons k l ih2 =>
    rw [likeLs, ih k (by simp), ih2 fun x hx => ih x (by simp [hx])]
    rfl
theorem likeLs_len : ∀ (l m : List Rt), l.length ≠ m.length → likeLs l m = false
  | [], [], h => absurd rfl h
  | [], _ :: _, _ => by rw [likeLs] <;> simp
  | _ :: _, [], _ => by rw [likeLs] <;> simp
  | a :: l, b :: m, h => by rw [likeLs, likeLs_len l m (by simpa using h), Bool.and_false]
theorem likeLs_get : ∀ (l m : List Rt), l.length = m.length → (likeLs l m = true ↔ ∀ i (h1 : i < l.length) (h2 : i < m.length), likeT l[i] m[i] = true)
  | [], [], _ => by simp [likeLs]
  | [], _ :: _, h => by simp at h
  | _ :: _, [], h => by simp at h
  | a :: l, b :: m, h => by
    rw [likeLs, Bool.and_eq_true, likeLs_get l m (by simpa using h)]
    constructor
    · rintro ⟨h1, h2⟩ i hi hj
      cases i with
      | zero => exact h1
      | succ i => exact h2 i (by simpa using hi) (by simpa using hj)
    · intro h
      exact ⟨h 0 (by simp) (by simp), fun i hi hj => h (i + 1) (by simpa using hi) (by simpa using hj)⟩
/-! which may be -/
def plainI (c : Int) : Bool := (decide (c ≥ 97) && decide (c ≤ 122)) || (decide (c ≥ 65) && decide (c ≤ 90)) || (decide (c ≥ 48) && decide (c ≤ 57)) || decide (Lib.indexByte [95, 45, 46, 47, 58] c.toNat.toUInt8 ≥ 0)
def oddM (c : Int) : Bool := !plainI c
def wordM (s : ByteArray) : Bool := decide ((s.size : Int) ≤ 64) && !hasB oddM s
def badW (ok : ByteArray → Bool) (l : List ByteArray) (i : Nat) : Bool := !ok (nthS l i) || (decide ((i : Int) > 0) && !lessB (nthS l (i - 1)) (nthS l i))
def riseB (ok : ByteArray → Bool) (l : List ByteArray) : Bool := (List.range l.length).all fun i => !badW ok l i
theorem rise_hit {ok : ByteArray → Bool} {l : List ByteArray} {i : Nat} (hi : i < l.length) (h : badW ok l i = true) : riseB ok l = false := by
  unfold riseB
  rw [List.all_eq_false]
  exact ⟨i, by simpa using hi, by simp [h]⟩
theorem rise_all {ok : ByteArray → Bool} {l : List ByteArray} (h : ∀ j, j < l.length → badW ok l j = false) : riseB ok l = true := by
  unfold riseB
  rw [List.all_eq_true]
  intro i hi
  rw [h i (by simpa using hi)]
  rfl
def mostM (how : Int) : Nat := if how > 2 then 8 else 1
def rightM (m : Mt) : Bool := riseB wordM m.ws && (decide (1 ≤ m.how) && decide (m.how ≤ 4)) && nameB m.n && decide (1 ≤ m.ws.length) && decide (m.ws.length ≤ mostM m.how)
def inT (n least : Int) : Bool := decide (n ≥ least) && decide (n ≤ 1099511627776)
def headR (h : Rh) (k : Nat) : Bool := !(!wordB h.recv || decide ((h.ms.length : Int) > 8) || !h.ms.all rightM || decide ((k : Int) > 16)) && (riseB nameB h.bys && decide ((h.bys.length : Int) ≤ 8)) && (riseB wordB h.mute && decide ((h.mute.length : Int) ≤ 8)) && ([h.wait].all fun n => inT n 0) && ([h.every, h.rep].all fun n => inT n 1)
def mayR : Nat → Rt → Bool
  | 0, _ => false
  | d + 1, r => headR r.h r.ks.length && r.ks.all (mayR d)
/-! where labels lead -/
def memB (l : List ByteArray) (s : ByteArray) : Bool := l.any fun x => decide (s = x)
def holdsM (l : List Lab) (m : Mt) : Bool := !(memB m.ws (getB l m.n) == (m.how == 2 || m.how == 4))
def holdsA (l : List Lab) (ms : List Mt) : Bool := ms.all (holdsM l)
def stepP (p : ByteArray) (i : Nat) : ByteArray := p ++ ⟨#[46]⟩ ++ itoaS (i : Int)
mutual
def findR (l : List Lab) : Rt → ByteArray → List (ByteArray × Rh)
  | .mk h ks, p => if ks.any (fun k => holdsA l k.h.ms) then findL l ks p 0 else [(p, h)]
def findL (l : List Lab) : List Rt → ByteArray → Nat → List (ByteArray × Rh)
  | [], _, _ => []
  | k :: r, p, i => if holdsA l k.h.ms then findR l k (stepP p i) ++ (if k.h.on then findL l r p (i + 1) else []) else findL l r p (i + 1)
end
/-! all of them -/

end
end Go.Proofs.YthkjlpjogojfiaaDoorPv
