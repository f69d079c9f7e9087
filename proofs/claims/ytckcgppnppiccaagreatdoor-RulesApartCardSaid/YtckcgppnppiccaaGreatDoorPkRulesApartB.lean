/-
Own texts of the proof, merged: part 2.
-/
import Derived.Test.YtckcgppnppiccaaGreatDoorPkRulesApartA
import Derived.WideAt
import Derived.Test.YtckcgppnppiccaaGreatDoorPvL
import Derived.HandedShaped
namespace Go.Proofs.YtckcgppnppiccaaGreatDoorPv
open Go
set_option linter.unusedSimpArgs false
set_option linter.unusedVariables false
set_option maxHeartbeats 4000000
set_option maxRecDepth 8000
attribute [local go_sem ↓] e_mv e_pick e_bin e_eqs e_beq e_un e_cvi e_str e_s2b e_b2s e_box e_build e_bsl e_ld e_st e_nck e_mkf e_slcS e_slcL e_fa e_fld e_ia e_iaa e_ix e_ixa e_ext e_lenS e_lenL e_mnmx e_app e_appb e_bbx e_msl e_clr e_call e_callv e_slcA e_mkm e_mput e_mget e_mlen e_mdel pa_t pa_c pa_f slcSP_str hiOf_some hiOf_none loOf_some loOf_none set_eq set_ne
attribute [local go_sem] pv pv1 simple frOf_0 frOf_1 frOf_2 frOf_3 frOf_4 frOf_5 ne_eq not_false_eq_true if_true Bool.false_eq_true if_false pbin punary Option.map_some Option.bind_some pick_and pick_or opt_true Bool.true_and Bool.and_self Bool.and_true Bool.true_or Bool.false_or Bool.not_true Bool.not_false callE pcall_eq List.map_cons List.map_nil List.append_nil List.nil_append List.cons_append mapM_cons' mapM_nil' dep_eq fz_sc fz_sl fz_em fz_fn fz_fp fz_agg fz_tu fz_bx fz_ob Nat.lt_irrefl Nat.zero_lt_one Nat.lt_add_one flat clL cl Bool.or_true okc_sc okc_em okc_sl okc_ob okc_bx okc_fp okc_fn okc_agg okc_ifc cells_agg cells_sc cells_sl cells_em cells_ob cells_fn cells_bx cells_fp List.length_cons List.length_nil Nat.zero_add and_self true_and and_true new_m new_c put_m put_c nil_m nil_c nil_mm new_mm put_mm newM_m newM_c newM_mm putM_m putM_c putM_mm mkeyV_1 mkeyV_2 mapAt_eq deref List.getElem?_cons_zero List.getElem?_cons_succ List.drop_zero List.drop_succ_cons List.take_succ_cons List.take_zero Nat.le_refl false_and and_false decide_true decide_false lenP_em lenP_nil lenP_sl lenP_ob Int.ofNat_zero
def d134 : Def := (.code 1 [.tmp 2] (.seq (.rg false [⟨.some 2, .none, .mv (.c (.slice .none 0 0))⟩]) (.seq (.rg false [⟨.some 3, .none, .mv (.c (.slice .none 0 0))⟩]) (.seq (.seq (.rg false [⟨.some 6, .none, .mv (.t 0)⟩, ⟨.some 7, .none, .lenL (.t 6)⟩, ⟨.some 8, .none, .mv (.c (.int .i64 0))⟩]) (.block 0 (.loop (.seq (.rg false [⟨.some 9, .none, .bin .lss (.t 8) (.t 7)⟩]) (.seq (.cond (.t 9) .skip (.exit 0)) (.seq (.block 1 (.seq (.rg false [⟨.some 10, .none, .ia 2 (.t 6) (.t 8)⟩, ⟨.some 11, .none, .ld (.some 2) (.t 10)⟩, ⟨.some 5, .none, .box (.c (.agg #[.string ⟨#[]⟩, .string ⟨#[]⟩]))⟩, ⟨.none, .none, .st 2 (.t 5) (.t 11)⟩]) (.rg false [⟨.some 12, .none, .mv (.t 3)⟩, ⟨.some 13, .none, .ld (.some 2) (.t 5)⟩, ⟨.some 14, .none, .bsl 2 (.agg #[.string ⟨#[]⟩, .string ⟨#[]⟩]) 1 [(0, .t 13)]⟩, ⟨.some 15, .none, .app 2 32 true (.t 12) (.t 14)⟩, ⟨.some 3, .none, .mv (.t 15)⟩]))) (.rg false [⟨.some 16, .none, .bin .add (.t 8) (.c (.int .i64 1))⟩, ⟨.some 8, .none, .mv (.t 16)⟩]))))))) (.seq (.rg false [⟨.some 17, .none, .mv (.t 3)⟩, ⟨.some 2, .none, .mv (.t 17)⟩]) .ret)))))
def d137 : Def := (.code 1 [.tmp 2] (.seq (.rg false [⟨.some 2, .none, .mv (.c (.slice .none 0 0))⟩]) (.seq (.rg false [⟨.some 3, .none, .mv (.c (.slice .none 0 0))⟩]) (.seq (.seq (.rg false [⟨.some 6, .none, .mv (.t 0)⟩, ⟨.some 7, .none, .lenL (.t 6)⟩, ⟨.some 8, .none, .mv (.c (.int .i64 0))⟩]) (.block 0 (.loop (.seq (.rg false [⟨.some 9, .none, .bin .lss (.t 8) (.t 7)⟩]) (.seq (.cond (.t 9) .skip (.exit 0)) (.seq (.block 1 (.seq (.rg false [⟨.some 10, .none, .ia 2 (.t 6) (.t 8)⟩, ⟨.some 11, .none, .ld (.some 2) (.t 10)⟩, ⟨.some 5, .none, .box (.c (.agg #[.string ⟨#[]⟩, .string ⟨#[]⟩]))⟩, ⟨.none, .none, .st 2 (.t 5) (.t 11)⟩]) (.rg false [⟨.some 12, .none, .mv (.t 3)⟩, ⟨.some 13, .none, .ld (.some 2) (.t 5)⟩, ⟨.some 14, .none, .bsl 2 (.agg #[.string ⟨#[]⟩, .string ⟨#[]⟩]) 1 [(0, .t 13)]⟩, ⟨.some 15, .none, .app 2 32 false (.t 12) (.t 14)⟩, ⟨.some 3, .none, .mv (.t 15)⟩]))) (.rg false [⟨.some 16, .none, .bin .add (.t 8) (.c (.int .i64 1))⟩, ⟨.some 8, .none, .mv (.t 16)⟩]))))))) (.seq (.rg false [⟨.some 17, .none, .mv (.t 3)⟩, ⟨.some 2, .none, .mv (.t 17)⟩]) .ret)))))
def d132 : Def := (.code 2 [.tmp 4] (.seq (.rg false [⟨.some 4, .none, .mv (.c (.bool false))⟩]) (.seq (.rg false [⟨.some 5, .none, .mv (.t 0)⟩, ⟨.some 6, .none, .mv (.t 1)⟩, ⟨.some 7, .none, .call 121 .pure [.t 5, .t 6]⟩, ⟨.some 8, .none, .bin .geq (.t 7) (.c (.int .i64 0))⟩, ⟨.some 4, .none, .mv (.t 8)⟩]) .ret)))
def d133 : Def := (.code 1 [.tmp 2] (.seq (.rg false [⟨.some 1, .none, .box (.t 0)⟩, ⟨.some 2, .none, .mv (.c (.bool false))⟩]) (.seq (.rg false [⟨.some 3, .none, .ld (.some 2) (.t 1)⟩, ⟨.some 4, .none, .call 120 .pure [.t 3]⟩, ⟨.some 5, .none, .un .not (.t 4)⟩, ⟨.some 2, .none, .mv (.t 5)⟩]) .ret)))
def d129 : Def := (.code 1 [.tmp 2, .tmp 3] (.seq (.rg false [⟨.some 2, .none, .mv (.c (.slice .none 0 0))⟩, ⟨.some 3, .none, .mv (.c (.int .i64 0))⟩]) (.seq (.seq (.rg false [⟨.some 6, .none, .mv (.t 0)⟩, ⟨.some 7, .none, .lenL (.t 6)⟩, ⟨.some 8, .none, .bin .gtr (.t 7) (.c (.int .i64 8))⟩]) (.cond (.t 8) (.seq (.rg false [⟨.some 2, .none, .mv (.c (.slice .none 0 0))⟩, ⟨.some 3, .none, .mv (.c (.int .i64 2))⟩]) .ret) .skip)) (.seq (.seq (.rg false [⟨.some 9, .none, .mv (.t 0)⟩, ⟨.some 10, .none, .call 132 .pure [.t 9, .f 133]⟩]) (.cond (.t 10) (.seq (.rg false [⟨.some 2, .none, .mv (.c (.slice .none 0 0))⟩, ⟨.some 3, .none, .mv (.c (.int .i64 1))⟩]) .ret) .skip)) (.seq (.rg false [⟨.some 11, .none, .mv (.t 0)⟩, ⟨.some 12, .none, .call 134 .opn [.t 11]⟩, ⟨.some 4, .none, .mv (.t 12)⟩]) (.seq (.rg false [⟨.some 13, .none, .mv (.t 4)⟩, ⟨.some 14, .none, .call 135 .opn [.t 13, .f 136]⟩]) (.seq (.rg false [⟨.some 15, .none, .mv (.t 4)⟩, ⟨.some 16, .none, .call 137 .pure [.t 15]⟩, ⟨.some 5, .none, .mv (.t 16)⟩]) (.seq (.seq (.rg false [⟨.some 17, .none, .mv (.t 5)⟩, ⟨.some 18, .none, .call 113 .pure [.t 17]⟩, ⟨.some 19, .none, .un .not (.t 18)⟩]) (.cond (.t 19) (.seq (.rg false [⟨.some 2, .none, .mv (.c (.slice .none 0 0))⟩, ⟨.some 3, .none, .mv (.c (.int .i64 10))⟩]) .ret) .skip)) (.seq (.rg false [⟨.some 20, .none, .mv (.t 5)⟩, ⟨.some 2, .none, .mv (.t 20)⟩, ⟨.some 3, .none, .mv (.c (.int .i64 0))⟩]) .ret)))))))))
def lp : List (Nat × Def) := [(134, d134), (137, d137), (132, d132), (133, d133), (129, d129)]
section
variable {env : Nat → Option Def} {fr : Fr} {σ : St} {K : Fr → St → Prop} {Q : X → Fr → St → Prop}
theorem labs_take_succ {l : List Lab} {i : Nat} (hi : i < l.length) : (labs l).take (i + 1) = (labs l).take i ++ [.agg [.sc (.string l[i].1), .sc (.string l[i].2)]] := by
  have hlen : i < (labs l).length := by rw [labs_len]; exact hi
  rw [List.take_succ_eq_append_getElem hlen]
  congr 1
  simp [labs, lab]
theorem a134 (P : Has lp env) {l : List Lab} (hn : l.length ≤ 1000000) : ∃ r σ', EV env 134 [.sl (labs l)] σ = some (r, σ') ∧ Gat σ' [15] 2 true r (labs l) := by
  refine EV_wp' (P (134, d134) (by simp [lp])) rfl ?_
  have hll := labs_len l
  (repeat' first
    | refine w_seq ?_ | refine w_rg ?_ | refine wo_nil ?_ | refine g_skU ?_ | refine g_skT ?_ | refine g_skF ?_
    | ((first | apply s_plain | apply s_void | apply s_guard | apply g_goT | apply g_goF); · simp only [go_sem, Nat.reduceEqDiff, Nat.reduceAdd, Nat.reduceLeDiff, hll]; (first | done | rfl))
    | ((first | apply g_T | apply g_F | apply g_gT | apply g_gF); · intro q1_; (first | intro q2_ | have q2_ := q1_); simp only [go_sem, Nat.reduceEqDiff, Nat.reduceAdd, Nat.reduceLeDiff, hll, q1_, q2_]; (first | done | rfl))
    | fail
    )
  refine w_block (w_range l.length (by omega) (fun i fr σ => fr 6 = .sl (labs l) ∧ Gat σ [15] 2 true (fr 3) ((labs l).take i)) (by decide) ?_ ?_ ?_ _ _ ?_ ?_ ?_)
  · rintro i fr σ v ⟨h0, h1⟩
    refine ⟨⟨?_, ?_⟩, ⟨?_, ?_⟩, ⟨?_, ?_⟩⟩ <;> simp only [go_sem, Nat.reduceEqDiff, Nat.reduceAdd, Nat.reduceLeDiff, h0, h1]
  · rintro i fr σ hi ⟨h6, hg⟩ hti htn
    have hy := labs_at (List.getElem?_eq_getElem hi)
    have e1 : (0 : Int) ≤ (i : Int) ∧ (i : Int) < (l.length : Int) := by omega
    refine w_block ?_
    simp only [lab] at hy
    (repeat' first
    | refine w_seq ?_ | refine w_rg ?_ | refine wo_nil ?_ | refine g_skU ?_ | refine g_skT ?_ | refine g_skF ?_
    | ((first | apply s_plain | apply s_void | apply s_guard | apply g_goT | apply g_goF); · simp only [go_sem, Nat.reduceEqDiff, Nat.reduceAdd, Nat.reduceLeDiff, h6, hti, e1, hll, Int.toNat_natCast, hy, List.modify_zero_cons, fillE, List.replicate_succ, List.replicate_zero, List.set_cons_zero]; (first | done | rfl))
    | ((first | apply g_T | apply g_F | apply g_gT | apply g_gF); · intro q1_; (first | intro q2_ | have q2_ := q1_); simp only [go_sem, Nat.reduceEqDiff, Nat.reduceAdd, Nat.reduceLeDiff, h6, hti, e1, hll, Int.toNat_natCast, hy, List.modify_zero_cons, fillE, List.replicate_succ, List.replicate_zero, List.set_cons_zero, q1_, q2_]; (first | done | rfl))
    | fail
    )
    have hlen : ((labs l).take i).length ≤ 1000000 := by rw [List.length_take]; omega
    refine s_gat (os := [15]) (w := true) (xs := (labs l).take i) (e := .agg [.sc (.string l[i].1), .sc (.string l[i].2)]) (by simp only [go_sem, Nat.reduceEqDiff, Nat.reduceAdd, Nat.reduceLeDiff]; exact ((hg.new _).put (d := 2000005) (by decide) _).new _) (by decide) (by simp only [go_sem, Nat.reduceEqDiff, Nat.reduceAdd, Nat.reduceLeDiff, srcOf, elemsOf]) rfl rfl (by omega) ?_
    intro p σ' hg2
    rw [← labs_take_succ hi] at hg2
    (repeat' first
    | refine w_seq ?_ | refine w_rg ?_ | refine wo_nil ?_ | refine g_skU ?_ | refine g_skT ?_ | refine g_skF ?_
    | ((first | apply s_plain | apply s_void | apply s_guard | apply g_goT | apply g_goF); · simp only [go_sem, Nat.reduceEqDiff, Nat.reduceAdd, Nat.reduceLeDiff]; (first | done | rfl))
    | ((first | apply g_T | apply g_F | apply g_gT | apply g_gF); · intro q1_; (first | intro q2_ | have q2_ := q1_); simp only [go_sem, Nat.reduceEqDiff, Nat.reduceAdd, Nat.reduceLeDiff, q1_, q2_]; (first | done | rfl))
    | fail
    )
    refine ⟨⟨?_, ?_⟩, ?_, ?_⟩
    · simp only [go_sem, Nat.reduceEqDiff, Nat.reduceAdd, Nat.reduceLeDiff, h6]
    · simp only [go_sem, Nat.reduceEqDiff, Nat.reduceAdd, Nat.reduceLeDiff]; exact hg2
    · simp only [go_sem, Nat.reduceEqDiff, Nat.reduceAdd, Nat.reduceLeDiff, hti]
    · simp only [go_sem, Nat.reduceEqDiff, Nat.reduceAdd, Nat.reduceLeDiff, htn]
  · rintro fr σ ⟨h6, hg⟩
    simp only [if_true]
    rw [List.take_of_length_le (by rw [hll]; exact Nat.le_refl _)] at hg
    (repeat' first
    | refine w_seq ?_ | refine w_rg ?_ | refine wo_nil ?_ | refine g_skU ?_ | refine g_skT ?_ | refine g_skF ?_
    | ((first | apply s_plain | apply s_void | apply s_guard | apply g_goT | apply g_goF); · simp only [go_sem, Nat.reduceEqDiff, Nat.reduceAdd, Nat.reduceLeDiff]; (first | done | rfl))
    | ((first | apply g_T | apply g_F | apply g_gT | apply g_gF); · intro q1_; (first | intro q2_ | have q2_ := q1_); simp only [go_sem, Nat.reduceEqDiff, Nat.reduceAdd, Nat.reduceLeDiff, q1_, q2_]; (first | done | rfl))
    | (apply w_condX; · simp only [go_sem, Nat.reduceEqDiff, Nat.reduceAdd, Nat.reduceLeDiff]; (first | done | rfl)); (first | refine wcd_T ?_ | refine wcd_F ?_)
    | refine w_skip ?_ | refine w_exit ?_ | refine w_ret ?_
    | fail
    )
    exact ⟨.inr rfl, fr 3, by simp only [go_sem, Nat.reduceEqDiff, Nat.reduceAdd, Nat.reduceLeDiff, retOf, resOf], hg⟩
  · exact ⟨by simp only [go_sem, Nat.reduceEqDiff, Nat.reduceAdd, Nat.reduceLeDiff], by simp only [go_sem, Nat.reduceEqDiff, Nat.reduceAdd, Nat.reduceLeDiff]; exact .em⟩
  · simp only [go_sem, Nat.reduceEqDiff, Nat.reduceAdd, Nat.reduceLeDiff]
  · simp only [go_sem, Nat.reduceEqDiff, Nat.reduceAdd, Nat.reduceLeDiff, hll]
end

def d116 : Def := (.code 2 [.tmp 4, .tmp 5] (.seq (.rg false [⟨.some 4, .none, .mv (.c (.slice .none 0 0))⟩, ⟨.some 5, .none, .mv (.c (.int .i64 0))⟩]) (.seq (.seq (.rg false [⟨.some 9, .none, .mv (.t 0)⟩, ⟨.some 10, .none, .call 113 .pure [.t 9]⟩, ⟨.some 11, .none, .un .not (.t 10)⟩, ⟨.some 12, .none, .mv (.t 11)⟩, ⟨.some 13, .some (12, false), .mv (.t 1)⟩, ⟨.some 14, .some (12, false), .call 113 .pure [.t 13]⟩, ⟨.some 15, .some (12, false), .un .not (.t 14)⟩, ⟨.some 16, .none, .pick (.t 12) (.c (.bool true)) (.t 15)⟩]) (.cond (.t 16) (.seq (.rg false [⟨.some 4, .none, .mv (.c (.slice .none 0 0))⟩, ⟨.some 5, .none, .mv (.c (.int .i64 1))⟩]) .ret) .skip)) (.seq (.rg false [⟨.some 17, .none, .mv (.t 1)⟩, ⟨.some 18, .none, .call 128 .opn [.t 17]⟩, ⟨.some 6, .none, .mv (.t 18)⟩]) (.seq (.seq (.rg false [⟨.some 19, .none, .mv (.t 0)⟩, ⟨.some 20, .none, .lenL (.t 19)⟩, ⟨.some 21, .none, .mv (.c (.int .i64 0))⟩]) (.block 0 (.loop (.seq (.rg false [⟨.some 22, .none, .bin .lss (.t 21) (.t 20)⟩]) (.seq (.cond (.t 22) .skip (.exit 0)) (.seq (.block 1 (.seq (.rg false [⟨.some 23, .none, .ia 2 (.t 19) (.t 21)⟩, ⟨.some 24, .none, .ld (.some 2) (.t 23)⟩, ⟨.some 8, .none, .box (.c (.agg #[.string ⟨#[]⟩, .string ⟨#[]⟩]))⟩, ⟨.none, .none, .st 2 (.t 8) (.t 24)⟩]) (.seq (.rg false [⟨.some 25, .none, .mv (.t 1)⟩, ⟨.some 26, .none, .fa 0 (.t 8)⟩, ⟨.some 27, .none, .ld .none (.t 26)⟩, ⟨.some 28, .none, .call 114 .pure [.t 25, .t 27]⟩, ⟨.some 29, .none, .bin .eql (.t 28) (.c (.string ⟨#[]⟩))⟩]) (.cond (.t 29) (.rg false [⟨.some 30, .none, .mv (.t 6)⟩, ⟨.some 31, .none, .ld (.some 2) (.t 8)⟩, ⟨.some 32, .none, .bsl 2 (.agg #[.string ⟨#[]⟩, .string ⟨#[]⟩]) 1 [(0, .t 31)]⟩, ⟨.some 33, .none, .app 2 32 false (.t 30) (.t 32)⟩, ⟨.some 6, .none, .mv (.t 33)⟩]) .skip)))) (.rg false [⟨.some 34, .none, .bin .add (.t 21) (.c (.int .i64 1))⟩, ⟨.some 21, .none, .mv (.t 34)⟩]))))))) (.seq (.rg false [⟨.some 35, .none, .mv (.t 6)⟩, ⟨.some 36, .none, .call 129 .pure [.t 35]⟩, ⟨.some 37, .none, .ext (.t 36) 0⟩, ⟨.some 38, .none, .ext (.t 36) 1⟩, ⟨.some 4, .none, .mv (.t 37)⟩, ⟨.some 5, .none, .mv (.t 38)⟩]) .ret))))))
def d109 : Def := (.code 2 [.tmp 4, .tmp 5] (.seq (.rg false [⟨.some 2, .none, .box (.t 0)⟩, ⟨.some 4, .none, .mv (.c (.slice .none 0 0))⟩, ⟨.some 5, .none, .mv (.c (.int .i64 0))⟩]) (.seq (.seq (.rg false [⟨.some 8, .none, .ld (.some 8) (.t 2)⟩, ⟨.some 9, .none, .call 105 .pure [.t 8]⟩, ⟨.some 10, .none, .un .not (.t 9)⟩]) (.cond (.t 10) (.seq (.rg false [⟨.some 4, .none, .mv (.c (.slice .none 0 0))⟩, ⟨.some 5, .none, .mv (.c (.int .i64 1))⟩]) .ret) .skip)) (.seq (.rg false [⟨.some 12, .none, .mv (.t 1)⟩, ⟨.some 13, .none, .fa 7 (.t 2)⟩, ⟨.some 14, .none, .ld .none (.t 13)⟩, ⟨.some 15, .none, .call 116 .pure [.t 12, .t 14]⟩, ⟨.some 11, .none, .mv (.t 15)⟩, ⟨.some 16, .none, .ext (.t 11) 0⟩, ⟨.some 17, .none, .ext (.t 11) 1⟩, ⟨.some 6, .none, .mv (.t 16)⟩, ⟨.some 7, .none, .mv (.t 17)⟩]) (.seq (.seq (.rg false [⟨.some 18, .none, .mv (.t 7)⟩, ⟨.some 19, .none, .bin .neq (.t 18) (.c (.int .i64 0))⟩]) (.cond (.t 19) (.seq (.rg false [⟨.some 20, .none, .mv (.t 7)⟩, ⟨.some 4, .none, .mv (.c (.slice .none 0 0))⟩, ⟨.some 5, .none, .mv (.t 20)⟩]) .ret) .skip)) (.seq (.rg false [⟨.some 21, .none, .mv (.t 6)⟩, ⟨.some 22, .none, .fa 0 (.t 2)⟩, ⟨.some 23, .none, .ld .none (.t 22)⟩, ⟨.some 24, .none, .build (.agg #[.string ⟨#[]⟩, .string ⟨#[]⟩]) [(0, (1, .c (.string ⟨#[97, 108, 101, 114, 116]⟩))), (1, (1, .t 23))]⟩, ⟨.some 25, .none, .bsl 2 (.agg #[.string ⟨#[]⟩, .string ⟨#[]⟩]) 1 [(0, .t 24)]⟩, ⟨.some 26, .none, .call 116 .pure [.t 21, .t 25]⟩, ⟨.some 27, .none, .ext (.t 26) 0⟩, ⟨.some 28, .none, .ext (.t 26) 1⟩, ⟨.some 4, .none, .mv (.t 27)⟩, ⟨.some 5, .none, .mv (.t 28)⟩]) .ret))))))
section
variable {env : Nat → Option Def} {fr : Fr} {σ : St} {K : Fr → St → Prop} {Q : X → Fr → St → Prop}
theorem right_len {l : List Lab} (h : rightL l = true) : l.length ≤ 8 := by
  unfold rightL at h
  simp only [Bool.and_eq_true, decide_eq_true_eq] at h
  omega
end

section
variable {env : Nat → Option Def} {fr : Fr} {σ σ' : St} {K : Fr → St → Prop} {Q : X → Fr → St → Prop}
structure Seek (l : List Lab) (i : Nat) (a : List Lab) (m : Lab) (pb : PV) (k : Nat) (fr : Fr) (σ : St) : Prop where
  le : k ≤ a.length
  f9 : fr 9 = .sl (labs l)
  f11 : fr 11 = .sc (.int .i64 i)
  f10 : fr 10 = .sc (.int .i64 l.length)
  f5 : fr 5 = pb
  pb : ∃ g, pb = .bx 2000005 g 2 0 0 ∧ σ.m 2000005 g = some ⟨2, [lab m], true, true⟩ ∧ g < σ.c 2000005
  g3 : Gat σ [46] 2 false (fr 3) (labs a)
  f6 : fr 6 = .sc (.int .i64 k)
  ins : insAt m a a.length = insAt m a k
end

theorem less_before : ∀ a b : List UInt8, Op.bytesLess a b = bytesBefore a b
  | [], [] => rfl
  | [], _ :: _ => rfl
  | _ :: _, [] => rfl
  | a :: x, b :: y => by simp only [Op.bytesLess, bytesBefore, less_before x y]
theorem lessB_eq (a b : ByteArray) : lessB a b = bytesBefore a.data.toList b.data.toList := by
  unfold lessB; rw [less_before, ByteArray.toList_eq, ByteArray.toList_eq]
theorem lessB_trans {a b c : ByteArray} (h1 : lessB a b = true) (h2 : lessB b c = true) : lessB a c = true := by
  rw [lessB_eq] at *
  exact Go.WideShapes.bytes_trans _ _ _ h1 h2
theorem lessB_irrefl (a : ByteArray) : lessB a a = false := by rw [lessB_eq]; exact Go.WideAt.bytes_irrefl _
def Rising (l : List Lab) : Prop := l.Pairwise fun a b => lessB a.1 b.1 = true
def Apart (l : List Lab) : Prop := l.Pairwise fun a b => a.1 ≠ b.1
theorem Rising.apart {l : List Lab} (h : Rising l) : Apart l := h.imp fun hab he => by
  rw [he, lessB_irrefl] at hab
  cases hab
theorem nth_eq {l : List Lab} {i : Nat} (hi : i < l.length) : nth l i = l[i] := by unfold nth; rw [List.getElem?_eq_getElem hi]; rfl
theorem right_iff {l : List Lab} : rightL l = true ↔ (∀ m ∈ l, mayB m = true) ∧ Rising l ∧ l.length ≤ 8 := by
  constructor
  · intro h
    have h8 := right_len h
    refine ⟨fun m hm => ?_, ?_, h8⟩
    · obtain ⟨i, hi⟩ := List.getElem?_of_mem hm
      have hlt := (List.getElem?_eq_some_iff.1 hi).1
      have := rightL_may h hlt
      have e : nth l i = m := by unfold nth; rw [hi]; rfl
      rwa [e] at this
    · unfold rightL at h
      simp only [Bool.and_eq_true, Bool.not_eq_true', decide_eq_false_iff_not] at h
      have hb := found_no h.1
      have step : ∀ j, j + 1 < l.length → lessB (nth l j).1 (nth l (j + 1)).1 = true := by
        intro j hj
        have := hb (j + 1) hj
        unfold badL at this
        simp only [Bool.or_eq_false_iff, Bool.and_eq_false_iff, Bool.not_eq_false', decide_eq_false_iff_not] at this
        rcases this.2 with h2 | h2
        · omega
        · exact h2
      have far : ∀ d i, i + d + 1 < l.length → lessB (nth l i).1 (nth l (i + d + 1)).1 = true := by
        intro d
        induction d with
        | zero => intro i hi; exact step i hi
        | succ d ih => intro i hi; exact lessB_trans (ih i (by omega)) (step (i + d + 1) (by omega))
      unfold Rising
      rw [List.pairwise_iff_getElem]
      intro i j hi hj hij
      have := far (j - i - 1) i (by omega)
      rw [show i + (j - i - 1) + 1 = j from by omega, nth_eq hi, nth_eq hj] at this
      exact this
  · rintro ⟨h1, h2, h3⟩
    unfold rightL
    simp only [Bool.and_eq_true, Bool.not_eq_true', decide_eq_false_iff_not, decide_eq_true_eq]
    refine ⟨?_, by omega⟩
    have : found (badL l) l.length = -1 := by
      refine found_none fun j hj => ?_
      unfold badL
      rw [nth_eq hj, h1 _ (List.getElem_mem hj)]
      simp only [Bool.not_true, Bool.false_or, Bool.and_eq_false_iff, decide_eq_false_iff_not, Bool.not_eq_false']
      cases j with
      | zero => exact .inl (by omega)
      | succ j =>
        right
        have := List.pairwise_iff_getElem.1 h2 j (j + 1) (by omega) hj (by omega)
        rw [show j + 1 - 1 = j from rfl, nth_eq (show j < l.length by omega)]
        exact this
    rw [this]
    omega

def d176 : Def := (.code 1 [.tmp 2] (.seq (.rg false [⟨.some 1, .none, .box (.t 0)⟩, ⟨.some 2, .none, .mv (.c (.string ⟨#[]⟩))⟩]) (.seq (.rg true [⟨.some 3, .none, .fa 0 (.t 1)⟩, ⟨.some 4, .none, .ld .none (.t 3)⟩, ⟨.some 5, .none, .bin .add (.t 4) (.c (.string ⟨#[61, 34]⟩))⟩, ⟨.some 6, .none, .fa 1 (.t 1)⟩, ⟨.some 7, .none, .ld .none (.t 6)⟩, ⟨.some 8, .none, .call 215 .strict [.t 7, .c (.string ⟨#[92]⟩), .c (.string ⟨#[92, 92]⟩)]⟩, ⟨.some 9, .none, .call 215 .strict [.t 8, .c (.string ⟨#[34]⟩), .c (.string ⟨#[92, 34]⟩)]⟩, ⟨.some 10, .none, .bin .add (.t 5) (.t 9)⟩, ⟨.some 11, .none, .bin .add (.t 10) (.c (.string ⟨#[34]⟩))⟩, ⟨.some 2, .none, .mv (.t 11)⟩]) .ret)))
def d202 : Def := (.code 1 [.tmp 2, .tmp 3] (.seq (.rg false [⟨.some 2, .none, .mv (.c (.string ⟨#[]⟩))⟩, ⟨.some 3, .none, .mv (.c (.int .i64 0))⟩]) (.seq (.seq (.rg false [⟨.some 7, .none, .mv (.t 0)⟩, ⟨.some 8, .none, .call 113 .pure [.t 7]⟩, ⟨.some 9, .none, .un .not (.t 8)⟩]) (.cond (.t 9) (.seq (.rg false [⟨.some 2, .none, .mv (.c (.string ⟨#[]⟩))⟩, ⟨.some 3, .none, .mv (.c (.int .i64 1))⟩]) .ret) .skip)) (.seq (.rg false [⟨.some 4, .none, .mv (.c (.slice .none 0 0))⟩]) (.seq (.seq (.rg false [⟨.some 10, .none, .mv (.t 0)⟩, ⟨.some 11, .none, .call 134 .opn [.t 10]⟩, ⟨.some 12, .none, .lenL (.t 11)⟩, ⟨.some 13, .none, .mv (.c (.int .i64 0))⟩]) (.block 0 (.loop (.seq (.rg false [⟨.some 14, .none, .bin .lss (.t 13) (.t 12)⟩]) (.seq (.cond (.t 14) .skip (.exit 0)) (.seq (.block 1 (.seq (.rg false [⟨.some 15, .none, .ia 2 (.t 11) (.t 13)⟩, ⟨.some 16, .none, .ld (.some 2) (.t 15)⟩, ⟨.some 6, .none, .box (.c (.agg #[.string ⟨#[]⟩, .string ⟨#[]⟩]))⟩, ⟨.none, .none, .st 2 (.t 6) (.t 16)⟩]) (.rg false [⟨.some 17, .none, .mv (.t 4)⟩, ⟨.some 18, .none, .ld (.some 2) (.t 6)⟩, ⟨.some 19, .none, .call 176 .pure [.t 18]⟩, ⟨.some 20, .none, .bsl 1 (.string ⟨#[]⟩) 1 [(0, .t 19)]⟩, ⟨.some 21, .none, .app 1 16 false (.t 17) (.t 20)⟩, ⟨.some 4, .none, .mv (.t 21)⟩]))) (.rg false [⟨.some 22, .none, .bin .add (.t 13) (.c (.int .i64 1))⟩, ⟨.some 13, .none, .mv (.t 22)⟩]))))))) (.seq (.rg false [⟨.some 23, .none, .mv (.t 4)⟩, ⟨.some 24, .none, .call 23 .pure [.t 23, .c (.string ⟨#[44]⟩)]⟩, ⟨.some 25, .none, .bin .add (.c (.string ⟨#[123]⟩)) (.t 24)⟩, ⟨.some 26, .none, .bin .add (.t 25) (.c (.string ⟨#[125]⟩))⟩, ⟨.some 2, .none, .mv (.t 26)⟩, ⟨.some 3, .none, .mv (.c (.int .i64 0))⟩]) .ret))))))
def d211 : Def := (.code 1 [.tmp 2] (.seq (.rg false [⟨.some 2, .none, .mv (.c (.string ⟨#[]⟩))⟩]) (.seq (.rg false [⟨.some 7, .none, .bsl 1 (.int .u8 0) 1 [(0, .c (.int .u8 123))]⟩, ⟨.some 3, .none, .mv (.t 7)⟩]) (.seq (.seq (.rg false [⟨.some 8, .none, .mv (.t 0)⟩, ⟨.some 9, .none, .lenL (.t 8)⟩, ⟨.some 10, .none, .mv (.c (.int .i64 0))⟩]) (.block 0 (.loop (.seq (.rg false [⟨.some 11, .none, .bin .lss (.t 10) (.t 9)⟩]) (.seq (.cond (.t 11) .skip (.exit 0)) (.seq (.block 1 (.seq (.rg false [⟨.some 12, .none, .mv (.t 10)⟩, ⟨.some 13, .none, .ia 2 (.t 8) (.t 10)⟩, ⟨.some 14, .none, .ld (.some 2) (.t 13)⟩, ⟨.some 5, .none, .box (.c (.agg #[.string ⟨#[]⟩, .string ⟨#[]⟩]))⟩, ⟨.some 4, .none, .mv (.t 12)⟩, ⟨.none, .none, .st 2 (.t 5) (.t 14)⟩]) (.seq (.seq (.rg false [⟨.some 15, .none, .mv (.t 4)⟩, ⟨.some 16, .none, .bin .gtr (.t 15) (.c (.int .i64 0))⟩]) (.cond (.t 16) (.rg false [⟨.some 17, .none, .mv (.t 3)⟩, ⟨.some 18, .none, .bsl 1 (.int .u8 0) 1 [(0, .c (.int .u8 44))]⟩, ⟨.some 19, .none, .app 1 1 false (.t 17) (.t 18)⟩, ⟨.some 3, .none, .mv (.t 19)⟩]) .skip)) (.seq (.rg false [⟨.some 20, .none, .mv (.t 3)⟩, ⟨.some 21, .none, .fa 0 (.t 5)⟩, ⟨.some 22, .none, .ld .none (.t 21)⟩, ⟨.some 23, .none, .s2b (.t 22)⟩, ⟨.some 24, .none, .app 1 1 false (.t 20) (.t 23)⟩, ⟨.some 3, .none, .mv (.t 24)⟩]) (.seq (.rg false [⟨.some 25, .none, .mv (.t 3)⟩, ⟨.some 26, .none, .bsl 1 (.int .u8 0) 2 [(0, .c (.int .u8 61)), (1, .c (.int .u8 34))]⟩, ⟨.some 27, .none, .app 1 1 false (.t 25) (.t 26)⟩, ⟨.some 3, .none, .mv (.t 27)⟩]) (.seq (.seq (.rg false [⟨.some 6, .none, .mv (.c (.int .i64 0))⟩]) (.block 2 (.loop (.seq (.seq (.rg false [⟨.some 28, .none, .mv (.t 6)⟩, ⟨.some 29, .none, .fa 1 (.t 5)⟩, ⟨.some 30, .none, .ld .none (.t 29)⟩, ⟨.some 31, .none, .lenS (.t 30)⟩, ⟨.some 32, .none, .bin .lss (.t 28) (.t 31)⟩]) (.cond (.t 32) .skip (.exit 2))) (.seq (.block 3 (.seq (.seq (.rg false [⟨.some 35, .none, .fa 1 (.t 5)⟩, ⟨.some 36, .none, .ld .none (.t 35)⟩, ⟨.some 37, .none, .mv (.t 6)⟩, ⟨.some 38, .none, .ix (.t 36) (.t 37)⟩, ⟨.some 39, .none, .bin .eql (.t 38) (.c (.int .u8 34))⟩, ⟨.some 40, .none, .mv (.t 39)⟩, ⟨.some 41, .some (40, false), .fa 1 (.t 5)⟩, ⟨.some 42, .some (40, false), .ld .none (.t 41)⟩, ⟨.some 43, .some (40, false), .mv (.t 6)⟩, ⟨.some 44, .some (40, false), .ix (.t 42) (.t 43)⟩, ⟨.some 45, .some (40, false), .bin .eql (.t 44) (.c (.int .u8 92))⟩, ⟨.some 46, .none, .pick (.t 40) (.c (.bool true)) (.t 45)⟩]) (.cond (.t 46) (.rg false [⟨.some 47, .none, .mv (.t 3)⟩, ⟨.some 48, .none, .bsl 1 (.int .u8 0) 1 [(0, .c (.int .u8 92))]⟩, ⟨.some 49, .none, .app 1 1 false (.t 47) (.t 48)⟩, ⟨.some 3, .none, .mv (.t 49)⟩]) .skip)) (.rg false [⟨.some 50, .none, .mv (.t 3)⟩, ⟨.some 51, .none, .fa 1 (.t 5)⟩, ⟨.some 52, .none, .ld .none (.t 51)⟩, ⟨.some 53, .none, .mv (.t 6)⟩, ⟨.some 54, .none, .ix (.t 52) (.t 53)⟩, ⟨.some 55, .none, .bsl 1 (.int .u8 0) 1 [(0, .t 54)]⟩, ⟨.some 56, .none, .app 1 1 false (.t 50) (.t 55)⟩, ⟨.some 3, .none, .mv (.t 56)⟩]))) (.rg false [⟨.some 33, .none, .mv (.t 6)⟩, ⟨.some 34, .none, .bin .add (.t 33) (.c (.int .i64 1))⟩, ⟨.some 6, .none, .mv (.t 34)⟩])))))) (.rg false [⟨.some 57, .none, .mv (.t 3)⟩, ⟨.some 58, .none, .bsl 1 (.int .u8 0) 1 [(0, .c (.int .u8 34))]⟩, ⟨.some 59, .none, .app 1 1 false (.t 57) (.t 58)⟩, ⟨.some 3, .none, .mv (.t 59)⟩]))))))) (.rg false [⟨.some 60, .none, .bin .add (.t 10) (.c (.int .i64 1))⟩, ⟨.some 10, .none, .mv (.t 60)⟩]))))))) (.seq (.rg false [⟨.some 61, .none, .mv (.t 3)⟩, ⟨.some 62, .none, .bsl 1 (.int .u8 0) 1 [(0, .c (.int .u8 125))]⟩, ⟨.some 63, .none, .app 1 1 false (.t 61) (.t 62)⟩, ⟨.some 3, .none, .mv (.t 63)⟩]) (.seq (.rg false [⟨.some 64, .none, .mv (.t 3)⟩, ⟨.some 65, .none, .b2s (.t 64)⟩, ⟨.some 2, .none, .mv (.t 65)⟩]) .ret))))))
def lu : List (Nat × Def) := [(176, d176), (202, d202), (211, d211), (23, .prim joinF), (215, .prim replF)]
section
variable {env : Nat → Option Def} {fr : Fr} {σ σ' : St} {K : Fr → St → Prop} {Q : X → Fr → St → Prop}
/-! ### a byte that is replaced -/
def rep1 (c : UInt8) (new : List UInt8) (s : List UInt8) : List UInt8 := s.flatMap fun b => if b = c then new else [b]
theorem idx_none {c : UInt8} {new : List UInt8} : ∀ {s : List UInt8}, Lib.index s [c] = -1 → rep1 c new s = s
  | [], _ => rfl
  | b :: l, h => by
    unfold Lib.index at h
    by_cases hb : b = c
    · subst hb; simp at h
    · have hp : [c].isPrefixOf (b :: l) = false := by simp [List.isPrefixOf, Ne.symm hb]
      rw [hp] at h
      simp only [Bool.false_eq_true, if_false] at h
      have h2 : Lib.index l [c] = -1 := by
        split at h
        · rename_i h3; simpa using h3
        · have := Lib.index_ge l [c]; rename_i h3; omega
      have := idx_none (new := new) h2
      unfold rep1 at this ⊢
      simp [hb, this]
theorem idx_some {c : UInt8} {new : List UInt8} : ∀ {s : List UInt8} {i : Nat}, Lib.index s [c] = i → s.take i ++ new ++ rep1 c new (s.drop (i + 1)) = rep1 c new s
  | [], i, h => by simp [Lib.index] at h
  | b :: l, i, h => by
    unfold Lib.index at h
    by_cases hb : b = c
    · subst hb
      have hp : [b].isPrefixOf (b :: l) = true := by simp [List.isPrefixOf]
      rw [hp, if_pos rfl] at h
      have : i = 0 := by omega
      subst this
      simp [rep1]
    · have hp : [c].isPrefixOf (b :: l) = false := by simp [List.isPrefixOf, Ne.symm hb]
      rw [hp] at h
      simp only [Bool.false_eq_true, if_false] at h
      split at h
      · omega
      · rename_i h3
        have hge := Lib.index_ge l [c]
        have hne : Lib.index l [c] ≠ -1 := by simpa using h3
        obtain ⟨j, rfl⟩ : ∃ j, i = j + 1 := ⟨i - 1, by omega⟩
        have := idx_some (c := c) (new := new) (s := l) (i := j) (by omega)
        unfold rep1 at this ⊢
        simp only [List.take_succ_cons, List.drop_succ_cons, List.flatMap_cons, hb, if_false, List.cons_append, List.nil_append]
        rw [← this]
theorem replaceK_one {c : UInt8} {new : List UInt8} : ∀ (n : Nat) (s : List UInt8), s.length < n → Lib.replaceK [c] new (Lib.countFrom [c] n s) s = rep1 c new s
  | 0, s, h => by omega
  | n + 1, s, h => by
    unfold Lib.countFrom
    by_cases hi : Lib.index s [c] = -1
    · rw [if_pos (by simpa using hi)]
      exact (idx_none hi).symm
    · have hge := Lib.index_ge s [c]
      obtain ⟨i, hi'⟩ : ∃ i : Nat, Lib.index s [c] = i := ⟨(Lib.index s [c]).toNat, by omega⟩
      rw [if_neg (by simpa using hi), Nat.add_comm, Lib.replaceK_hit [c] new _ s i hi', hi', Int.toNat_natCast]
      have hroom := Lib.index_room s [c] (by omega)
      have hlen : (s.drop (i + [c].length)).length < n := by
        simp only [List.length_drop, List.length_cons, List.length_nil] at hroom ⊢
        omega
      rw [replaceK_one n _ hlen]
      exact idx_some hi'
theorem replaceAll_one {c : UInt8} {new : List UInt8} (hne : new ≠ [c]) (s : List UInt8) : Lib.replaceAll s [c] new = rep1 c new s := by
  unfold Lib.replaceAll Lib.replace
  have h1 : ([c] == new) = false := by simpa using Ne.symm hne
  rw [h1]
  simp only [Bool.false_eq_true, if_false]
  have h2 : Lib.replaceNum s [c] (-1) = Lib.count s [c] := by unfold Lib.replaceNum; rw [if_pos (.inl (by decide))]
  rw [h2]
  exact replaceK_one _ s (by omega)
def esc (s : List UInt8) : List UInt8 := s.flatMap fun b => if b = 34 ∨ b = 92 then [92, b] else [b]
theorem esc_two (s : List UInt8) : rep1 34 [92, 34] (rep1 92 [92, 92] s) = esc s := by
  unfold rep1 esc
  rw [List.flatMap_assoc]
  congr 1
  funext b
  by_cases h1 : b = 92
  · subst h1; decide
  · by_cases h2 : b = 34
    · subst h2; decide
    · simp [h1, h2]
theorem rep1_len {c : UInt8} {new : List UInt8} (hn : new.length ≤ 2) (s : List UInt8) : (rep1 c new s).length ≤ 2 * s.length := by
  unfold rep1
  induction s with
  | nil => simp
  | cons b l ih =>
    simp only [List.flatMap_cons, List.length_append, List.length_cons]
    split
    · omega
    · simp only [List.length_cons, List.length_nil]; omega
theorem esc_len (s : List UInt8) : (esc s).length ≤ 2 * s.length := by
  unfold esc
  induction s with
  | nil => simp
  | cons b l ih =>
    simp only [List.flatMap_cons, List.length_append, List.length_cons]
    split
    · simp only [List.length_cons, List.length_nil]; omega
    · simp only [List.length_cons, List.length_nil]; omega
def escS (s : ByteArray) : ByteArray := ⟨(esc s.data.toList).toArray⟩
theorem a215 (U : Has lu env) {s old new : ByteArray} (h : s.size < 4294967281 ∧ 1 ≤ old.size ∧ s.size + Lib.countB s old * new.size ≤ 140737488355328) :
    AV env 215 [.sc (.string s), .sc (.string old), .sc (.string new)] = some (.sc (.string ⟨(Lib.replaceAll s.data.toList old.data.toList new.data.toList).toArray⟩)) := by
  have hp := U (215, .prim replF) (by simp [lu])
  refine AV_of (σ := St.nil) (r := .sc (.string ⟨(Lib.replaceAll s.data.toList old.data.toList new.data.toList).toArray⟩)) (EV_of (n := 1) ?_) rfl
  simp only [evF, hp, replF]
  rw [if_pos h]
theorem a215a (U : Has lu env) {s : ByteArray} (hs : s.size ≤ 1000) : AV env 215 [.sc (.string s), .sc (.string ⟨#[92]⟩), .sc (.string ⟨#[92, 92]⟩)] = some (.sc (.string ⟨(rep1 92 [92, 92] s.data.toList).toArray⟩)) := by
  have hc := Lib.countB_le ⟨#[92]⟩ (by decide) s.size s (Nat.le_refl _)
  have h := a215 U (s := s) (old := ⟨#[92]⟩) (new := ⟨#[92, 92]⟩) ⟨by omega, by decide, by
    have : (⟨#[92, 92]⟩ : ByteArray).size = 2 := rfl
    rw [this]; omega⟩
  rw [h]
  have : Lib.replaceAll s.data.toList (⟨#[92]⟩ : ByteArray).data.toList (⟨#[92, 92]⟩ : ByteArray).data.toList = rep1 92 [92, 92] s.data.toList := replaceAll_one (by decide) _
  rw [this]
theorem a215b (U : Has lu env) {s : ByteArray} (hs : s.size ≤ 1000) : AV env 215 [.sc (.string s), .sc (.string ⟨#[34]⟩), .sc (.string ⟨#[92, 34]⟩)] = some (.sc (.string ⟨(rep1 34 [92, 34] s.data.toList).toArray⟩)) := by
  have hc := Lib.countB_le ⟨#[34]⟩ (by decide) s.size s (Nat.le_refl _)
  have h := a215 U (s := s) (old := ⟨#[34]⟩) (new := ⟨#[92, 34]⟩) ⟨by omega, by decide, by
    have : (⟨#[92, 34]⟩ : ByteArray).size = 2 := rfl
    rw [this]; omega⟩
  rw [h]
  have : Lib.replaceAll s.data.toList (⟨#[34]⟩ : ByteArray).data.toList (⟨#[92, 34]⟩ : ByteArray).data.toList = rep1 34 [92, 34] s.data.toList := replaceAll_one (by decide) _
  rw [this]
def markS (m : Lab) : ByteArray := ((m.1 ++ ⟨#[61, 34]⟩) ++ escS m.2) ++ ⟨#[34]⟩
theorem a176 (U : Has lu env) {m : Lab} (h1 : m.1.size ≤ 64) (h2 : m.2.size ≤ 64) : AV env 176 [lab m] = some (.sc (.string (markS m))) := by
  have ha := a215a U (s := m.2) (by omega)
  have l1 := rep1_len (c := 92) (new := [92, 92]) (by decide) m.2.data.toList
  have l0 : m.2.data.toList.length = m.2.size := by simp
  have s1 : (⟨(rep1 92 [92, 92] m.2.data.toList).toArray⟩ : ByteArray).size = (rep1 92 [92, 92] m.2.data.toList).length := by simp [ByteArray.size]
  have hb := a215b U (s := ⟨(rep1 92 [92, 92] m.2.data.toList).toArray⟩) (by omega)
  have e1 : (⟨(rep1 34 [92, 34] (⟨(rep1 92 [92, 92] m.2.data.toList).toArray⟩ : ByteArray).data.toList).toArray⟩ : ByteArray) = escS m.2 := by
    unfold escS
    rw [← esc_two]
  rw [e1] at hb
  have l2 := esc_len m.2.data.toList
  have s2 : (escS m.2).size = (esc m.2.data.toList).length := by simp [escS, ByteArray.size]
  have q1 : m.1.size + (⟨#[61, 34]⟩ : ByteArray).size ≤ 9223372036854775807 := by
    have : (⟨#[61, 34]⟩ : ByteArray).size = 2 := rfl
    omega
  have q2 : (m.1 ++ ⟨#[61, 34]⟩).size + (escS m.2).size ≤ 9223372036854775807 := by
    rw [ByteArray.size_append]
    have : (⟨#[61, 34]⟩ : ByteArray).size = 2 := rfl
    omega
  have q3 : ((m.1 ++ ⟨#[61, 34]⟩) ++ escS m.2).size + (⟨#[34]⟩ : ByteArray).size ≤ 9223372036854775807 := by
    rw [ByteArray.size_append, ByteArray.size_append]
    have : (⟨#[61, 34]⟩ : ByteArray).size = 2 := rfl
    have : (⟨#[34]⟩ : ByteArray).size = 1 := rfl
    omega
  refine AV_wp (U (176, d176) (by simp [lu])) rfl ?_
  unfold lab
  (repeat' first
    | refine w_seq ?_ | refine w_rg ?_ | refine wo_nil ?_ | refine g_skU ?_ | refine g_skT ?_ | refine g_skF ?_
    | ((first | apply s_plain | apply s_void | apply s_guard | apply g_goT | apply g_goF); · simp only [go_sem, Nat.reduceEqDiff, Nat.reduceAdd, Nat.reduceLeDiff, ha, hb, q1, q2, q3]; (first | done | rfl))
    | ((first | apply g_T | apply g_F | apply g_gT | apply g_gF); · intro q1_; (first | intro q2_ | have q2_ := q1_); simp only [go_sem, Nat.reduceEqDiff, Nat.reduceAdd, Nat.reduceLeDiff, ha, hb, q1, q2, q3, q1_, q2_]; (first | done | rfl))
    | (apply w_condX; · simp only [go_sem, Nat.reduceEqDiff, Nat.reduceAdd, Nat.reduceLeDiff, ha, hb, q1, q2, q3]; (first | done | rfl)); (first | refine wcd_T ?_ | refine wcd_F ?_)
    | refine w_skip ?_ | refine w_exit ?_ | refine w_ret ?_
    | fail
    )
  exact ⟨.inr rfl, by simp only [go_sem, Nat.reduceEqDiff, Nat.reduceAdd, Nat.reduceLeDiff, retOf, resOf]; first | done | rfl⟩
def partsP (l : List Lab) : List PV := l.map fun m => .sc (.string (markS m))
def bodyS (l : List Lab) : ByteArray := ⟨(Lib.join (l.map fun m => (markS m).data.toList) [44]).toArray⟩
def textS (l : List Lab) : ByteArray := (⟨#[123]⟩ ++ bodyS l) ++ ⟨#[125]⟩
theorem parts_fz (σ : St) (l : List Lab) : (partsP l).mapM (fz σ 11) = some (partsP l) := by
  induction l with
  | nil => rfl
  | cons m r ih =>
    show List.mapM (fz σ 11) (.sc (.string (markS m)) :: partsP r) = _
    rw [mapM_cons', ih]
    rfl
theorem parts_str (l : List Lab) : (partsP l).mapM strOf = some (l.map markS) := by
  induction l with
  | nil => rfl
  | cons m r ih =>
    show List.mapM strOf (.sc (.string (markS m)) :: partsP r) = _
    rw [mapM_cons', ih]
    rfl
theorem mark_size {m : Lab} (h1 : m.1.size ≤ 64) (h2 : m.2.size ≤ 64) : (markS m).data.toList.length ≤ 200 := by
  have l2 := esc_len m.2.data.toList
  have l0 : m.2.data.toList.length = m.2.size := by simp
  have s2 : (escS m.2).size = (esc m.2.data.toList).length := by simp [escS, ByteArray.size]
  have : (markS m).data.toList.length = (markS m).size := by simp
  rw [this]
  unfold markS
  rw [ByteArray.size_append, ByteArray.size_append, ByteArray.size_append]
  have : (⟨#[61, 34]⟩ : ByteArray).size = 2 := rfl
  have : (⟨#[34]⟩ : ByteArray).size = 1 := rfl
  omega
theorem join_len (sep : List UInt8) : ∀ (xs : List (List UInt8)), (∀ x ∈ xs, x.length ≤ 200) → sep.length ≤ 1 → (Lib.join xs sep).length ≤ 201 * xs.length
  | [], _, _ => by simp [Lib.join]
  | x :: r, h, hs => by
    rw [Lib.join_cons]
    have hx := h x (by simp)
    have : ∀ r : List (List UInt8), (∀ x ∈ r, x.length ≤ 200) → (Lib.joinTail sep r).length ≤ 201 * r.length := by
      intro r
      induction r with
      | nil => intro _; simp [Lib.joinTail]
      | cons y r ih =>
        intro h
        have hy := h y (by simp)
        have := ih fun x hx => h x (by simp [hx])
        unfold Lib.joinTail at this ⊢
        simp only [List.map_cons, List.flatten_cons, List.length_append, List.length_cons]
        omega
    have := this r fun x hx => h x (by simp [hx])
    simp only [List.length_append, List.length_cons]
    omega
theorem a23 (U : Has lu env) {l : List Lab} (h1 : ∀ m ∈ l, m.1.size ≤ 64 ∧ m.2.size ≤ 64) (h8 : l.length ≤ 8) : AV env 23 [.sl (partsP l), .sc (.string ⟨#[44]⟩)] = some (.sc (.string (bodyS l))) := by
  have hp := U (23, .prim joinF) (by simp [lu])
  refine AV_of (σ := St.nil) (r := .sc (.string (bodyS l))) (EV_of (n := 1) ?_) rfl
  simp only [evF, hp, joinF, parts_str, Option.bind_some]
  have hm : (l.map markS).map (·.data.toList) = l.map fun m => (markS m).data.toList := by simp
  have hj := join_len [44] (l.map fun m => (markS m).data.toList) (fun x hx => by
    obtain ⟨m, hm, rfl⟩ := List.mem_map.1 hx
    exact mark_size (h1 m hm).1 (h1 m hm).2) (by simp)
  rw [List.length_map] at hj
  rw [hm, if_pos ⟨by rw [List.length_map]; omega, by
    show (Lib.join _ [44]).length ≤ _
    omega⟩]
  rfl
theorem may_size {m : Lab} (h : mayB m = true) : m.1.size ≤ 64 ∧ m.2.size ≤ 64 := by
  unfold mayB nameB valueB at h
  simp only [Bool.and_eq_true, decide_eq_true_eq] at h
  omega
theorem a202 (H : Has la0 env) (G : Has lc env) (P : Has lp env) (U : Has lu env) {l : List Lab} (hn : l.length ≤ 9223372036854775807) (hl : Smalls l) :
    AV env 202 [.sl (labs l)] = some (.tu [.sc (.string (if rightL l = true then textS l else ⟨#[]⟩)), .sc (.int .i64 (if rightL l = true then 0 else 1))]) := by
  have hll := labs_len l
  have h113 := a113 H G hn hl
  refine AV_wp (U (202, d202) (by simp [lu])) rfl ?_
  (repeat' first
    | refine w_seq ?_ | refine w_rg ?_ | refine wo_nil ?_ | refine g_skU ?_ | refine g_skT ?_ | refine g_skF ?_
    | ((first | apply s_plain | apply s_void | apply s_guard | apply g_goT | apply g_goF); · simp only [go_sem, Nat.reduceEqDiff, Nat.reduceAdd, Nat.reduceLeDiff, h113]; (first | done | rfl))
    | ((first | apply g_T | apply g_F | apply g_gT | apply g_gF); · intro q1_; (first | intro q2_ | have q2_ := q1_); simp only [go_sem, Nat.reduceEqDiff, Nat.reduceAdd, Nat.reduceLeDiff, h113, q1_, q2_]; (first | done | rfl))
    | fail
    )
  cases hr : rightL l with
  | false =>
    (repeat' first
    | refine w_seq ?_ | refine w_rg ?_ | refine wo_nil ?_ | refine g_skU ?_ | refine g_skT ?_ | refine g_skF ?_
    | ((first | apply s_plain | apply s_void | apply s_guard | apply g_goT | apply g_goF); · simp only [go_sem, Nat.reduceEqDiff, Nat.reduceAdd, Nat.reduceLeDiff]; (first | done | rfl))
    | ((first | apply g_T | apply g_F | apply g_gT | apply g_gF); · intro q1_; (first | intro q2_ | have q2_ := q1_); simp only [go_sem, Nat.reduceEqDiff, Nat.reduceAdd, Nat.reduceLeDiff, q1_, q2_]; (first | done | rfl))
    | (apply w_condX; · simp only [go_sem, Nat.reduceEqDiff, Nat.reduceAdd, Nat.reduceLeDiff]; (first | done | rfl)); (first | refine wcd_T ?_ | refine wcd_F ?_)
    | refine w_skip ?_ | refine w_exit ?_ | refine w_ret ?_
    | fail
    )
    exact ⟨.inr rfl, by simp only [go_sem, Nat.reduceEqDiff, Nat.reduceAdd, Nat.reduceLeDiff, retOf, resOf]; first | done | rfl⟩
  | true =>
    obtain ⟨hmay, _, h8⟩ := right_iff.1 hr
    have hsz : ∀ m ∈ l, m.1.size ≤ 64 ∧ m.2.size ≤ 64 := fun m hm => may_size (hmay m hm)
    obtain ⟨r, σ1, h134, hg⟩ := a134 (σ := St.nil) P (l := l) (by omega)
    (repeat' first
    | refine w_seq ?_ | refine w_rg ?_ | refine wo_nil ?_ | refine g_skU ?_ | refine g_skT ?_ | refine g_skF ?_
    | ((first | apply s_plain | apply s_void | apply s_guard | apply g_goT | apply g_goF); · simp only [go_sem, Nat.reduceEqDiff, Nat.reduceAdd, Nat.reduceLeDiff]; (first | done | rfl))
    | ((first | apply g_T | apply g_F | apply g_gT | apply g_gF); · intro q1_; (first | intro q2_ | have q2_ := q1_); simp only [go_sem, Nat.reduceEqDiff, Nat.reduceAdd, Nat.reduceLeDiff, q1_, q2_]; (first | done | rfl))
    | (apply w_condX; · simp only [go_sem, Nat.reduceEqDiff, Nat.reduceAdd, Nat.reduceLeDiff]; (first | done | rfl)); (first | refine wcd_T ?_ | refine wcd_F ?_)
    | refine w_skip ?_ | refine w_exit ?_ | refine w_ret ?_
    | fail
    )
    (repeat' first
    | refine w_seq ?_ | refine w_rg ?_ | refine wo_nil ?_ | refine g_skU ?_ | refine g_skT ?_ | refine g_skF ?_
    | ((first | apply s_plain | apply s_void | apply s_guard | apply g_goT | apply g_goF); · simp only [go_sem, Nat.reduceEqDiff, Nat.reduceAdd, Nat.reduceLeDiff, h134]; (first | done | rfl))
    | ((first | apply g_T | apply g_F | apply g_gT | apply g_gF); · intro q1_; (first | intro q2_ | have q2_ := q1_); simp only [go_sem, Nat.reduceEqDiff, Nat.reduceAdd, Nat.reduceLeDiff, h134, q1_, q2_]; (first | done | rfl))
    | fail
    )
    refine s_plain (gat_len hg (by simp only [go_sem, Nat.reduceEqDiff, Nat.reduceAdd, Nat.reduceLeDiff])) ?_
    (repeat' first
    | refine w_seq ?_ | refine w_rg ?_ | refine wo_nil ?_ | refine g_skU ?_ | refine g_skT ?_ | refine g_skF ?_
    | ((first | apply s_plain | apply s_void | apply s_guard | apply g_goT | apply g_goF); · simp only [go_sem, Nat.reduceEqDiff, Nat.reduceAdd, Nat.reduceLeDiff, hll]; (first | done | rfl))
    | ((first | apply g_T | apply g_F | apply g_gT | apply g_gF); · intro q1_; (first | intro q2_ | have q2_ := q1_); simp only [go_sem, Nat.reduceEqDiff, Nat.reduceAdd, Nat.reduceLeDiff, hll, q1_, q2_]; (first | done | rfl))
    | fail
    )
    refine w_block (w_range l.length hn (fun i fr σ => Gat σ [15] 2 true (fr 11) (labs l) ∧ Gat σ [21] 1 false (fr 4) (partsP (l.take i))) (by decide) ?_ ?_ ?_ _ _ ?_ ?_ ?_)
    · rintro i fr σ v ⟨h0, h1⟩
      refine ⟨⟨?_, ?_⟩, ⟨?_, ?_⟩, ⟨?_, ?_⟩⟩ <;> simp only [go_sem, Nat.reduceEqDiff, Nat.reduceAdd, Nat.reduceLeDiff, h0, h1]
    · rintro i fr σ hi ⟨g11, hg⟩ hti htn
      rcases g11 with ⟨_, hnil⟩ | ⟨o, g, wr, ho, q11, qm, qc, qne, qw⟩
      · exfalso
        have := congrArg List.length hnil
        rw [hll] at this
        simp only [List.length_nil] at this
        omega
      · have ho' : o = 15 := by simpa using ho
        subst ho'
        have g11 : Gat σ [15] 2 true (fr 11) (labs l) := .inr ⟨15, g, wr, ho, q11, qm, qc, qne, qw⟩
        rw [hll] at q11
        have hy := labs_at (List.getElem?_eq_getElem hi)
        have e1 : (0 : Int) ≤ (i : Int) ∧ (i : Int) < (l.length : Int) := by omega
        have h176 := a176 U (m := l[i]) (hsz _ (List.getElem_mem hi)).1 (hsz _ (List.getElem_mem hi)).2
        refine w_block ?_
        simp only [lab] at hy h176
        (repeat' first
    | refine w_seq ?_ | refine w_rg ?_ | refine wo_nil ?_ | refine g_skU ?_ | refine g_skT ?_ | refine g_skF ?_
    | ((first | apply s_plain | apply s_void | apply s_guard | apply g_goT | apply g_goF); · simp only [go_sem, Nat.reduceEqDiff, Nat.reduceAdd, Nat.reduceLeDiff, q11, qm, hti, e1, Int.toNat_natCast, hy, h176, List.modify_zero_cons, fillE, List.replicate_succ, List.replicate_zero, List.set_cons_zero, List.drop_zero]; (first | done | rfl))
    | ((first | apply g_T | apply g_F | apply g_gT | apply g_gF); · intro q1_; (first | intro q2_ | have q2_ := q1_); simp only [go_sem, Nat.reduceEqDiff, Nat.reduceAdd, Nat.reduceLeDiff, q11, qm, hti, e1, Int.toNat_natCast, hy, h176, List.modify_zero_cons, fillE, List.replicate_succ, List.replicate_zero, List.set_cons_zero, List.drop_zero, q1_, q2_]; (first | done | rfl))
    | fail
    )
        have hpt : partsP (l.take (i + 1)) = partsP (l.take i) ++ [.sc (.string (markS l[i]))] := by
          rw [List.take_succ_eq_append_getElem hi]; simp only [partsP, List.map_append, List.map_cons, List.map_nil]
        have hlen : (partsP (l.take i)).length ≤ 8 := by simp [partsP, List.length_take]; omega
        refine s_gatL (os := [21]) (w := false) (ys := [.sc (.string (markS l[i]))]) (by simp only [go_sem, Nat.reduceEqDiff, Nat.reduceAdd, Nat.reduceLeDiff]; exact ((hg.new _).put (d := 2000006) (by decide) _).new _) (by simp only [go_sem, Nat.reduceEqDiff, Nat.reduceAdd, Nat.reduceLeDiff, srcOf, elemsOf]) rfl (by simp; omega) ?_
        intro p σ' hg2 kp
        rw [Bool.false_and, ← hpt] at hg2
        (repeat' first
    | refine w_seq ?_ | refine w_rg ?_ | refine wo_nil ?_ | refine g_skU ?_ | refine g_skT ?_ | refine g_skF ?_
    | ((first | apply s_plain | apply s_void | apply s_guard | apply g_goT | apply g_goF); · simp only [go_sem, Nat.reduceEqDiff, Nat.reduceAdd, Nat.reduceLeDiff]; (first | done | rfl))
    | ((first | apply g_T | apply g_F | apply g_gT | apply g_gF); · intro q1_; (first | intro q2_ | have q2_ := q1_); simp only [go_sem, Nat.reduceEqDiff, Nat.reduceAdd, Nat.reduceLeDiff, q1_, q2_]; (first | done | rfl))
    | fail
    )
        refine ⟨⟨?_, ?_⟩, ?_, ?_⟩
        · simp only [go_sem, Nat.reduceEqDiff, Nat.reduceAdd, Nat.reduceLeDiff]; exact ((((g11.new _).put (d := 2000006) (by decide) _).new _).keep kp (by simp))
        · simp only [go_sem, Nat.reduceEqDiff, Nat.reduceAdd, Nat.reduceLeDiff]; exact hg2
        · simp only [go_sem, Nat.reduceEqDiff, Nat.reduceAdd, Nat.reduceLeDiff, hti]
        · simp only [go_sem, Nat.reduceEqDiff, Nat.reduceAdd, Nat.reduceLeDiff, htn]
    · rintro fr σ ⟨_, hg⟩
      try simp only [if_true]
      rw [List.take_of_length_le (Nat.le_refl _)] at hg
      have hfz := hg.fz (parts_fz σ _)
      have h23 := a23 U hsz h8
      have bl : (bodyS l).size ≤ 1608 := by
        have hj := join_len [44] (l.map fun m => (markS m).data.toList) (fun x hx => by
          obtain ⟨m, hm, rfl⟩ := List.mem_map.1 hx
          exact mark_size (hsz m hm).1 (hsz m hm).2) (by simp)
        rw [List.length_map] at hj
        simp only [bodyS, ByteArray.size, List.size_toArray]
        omega
      have q1 : (⟨#[123]⟩ : ByteArray).size + (bodyS l).size ≤ 9223372036854775807 := by
        have : (⟨#[123]⟩ : ByteArray).size = 1 := rfl
        omega
      have q2 : (⟨#[123]⟩ ++ bodyS l).size + (⟨#[125]⟩ : ByteArray).size ≤ 9223372036854775807 := by
        rw [ByteArray.size_append]
        have : (⟨#[123]⟩ : ByteArray).size = 1 := rfl
        have : (⟨#[125]⟩ : ByteArray).size = 1 := rfl
        omega
      (repeat' first
    | refine w_seq ?_ | refine w_rg ?_ | refine wo_nil ?_ | refine g_skU ?_ | refine g_skT ?_ | refine g_skF ?_
    | ((first | apply s_plain | apply s_void | apply s_guard | apply g_goT | apply g_goF); · simp only [go_sem, Nat.reduceEqDiff, Nat.reduceAdd, Nat.reduceLeDiff]; (first | done | rfl))
    | ((first | apply g_T | apply g_F | apply g_gT | apply g_gF); · intro q1_; (first | intro q2_ | have q2_ := q1_); simp only [go_sem, Nat.reduceEqDiff, Nat.reduceAdd, Nat.reduceLeDiff, q1_, q2_]; (first | done | rfl))
    | fail
    )
      refine s_call (as := [.sl (partsP l), .sc (.string ⟨#[44]⟩)]) (by simp only [go_sem, Nat.reduceEqDiff, Nat.reduceAdd, Nat.reduceLeDiff, hfz]) h23 ?_
      intro σ'
      (repeat' first
    | refine w_seq ?_ | refine w_rg ?_ | refine wo_nil ?_ | refine g_skU ?_ | refine g_skT ?_ | refine g_skF ?_
    | ((first | apply s_plain | apply s_void | apply s_guard | apply g_goT | apply g_goF); · simp only [go_sem, Nat.reduceEqDiff, Nat.reduceAdd, Nat.reduceLeDiff, q1, q2]; (first | done | rfl))
    | ((first | apply g_T | apply g_F | apply g_gT | apply g_gF); · intro q1_; (first | intro q2_ | have q2_ := q1_); simp only [go_sem, Nat.reduceEqDiff, Nat.reduceAdd, Nat.reduceLeDiff, q1, q2, q1_, q2_]; (first | done | rfl))
    | (apply w_condX; · simp only [go_sem, Nat.reduceEqDiff, Nat.reduceAdd, Nat.reduceLeDiff, q1, q2]; (first | done | rfl)); (first | refine wcd_T ?_ | refine wcd_F ?_)
    | refine w_skip ?_ | refine w_exit ?_ | refine w_ret ?_
    | fail
    )
      exact ⟨.inr rfl, by simp only [go_sem, Nat.reduceEqDiff, Nat.reduceAdd, Nat.reduceLeDiff, retOf, resOf, hr]; first | done | rfl⟩
    · exact ⟨by simp only [go_sem, Nat.reduceEqDiff, Nat.reduceAdd, Nat.reduceLeDiff]; exact hg, by simp only [go_sem, Nat.reduceEqDiff, Nat.reduceAdd, Nat.reduceLeDiff]; exact .em⟩
    · simp only [go_sem, Nat.reduceEqDiff, Nat.reduceAdd, Nat.reduceLeDiff]
    · simp only [go_sem, Nat.reduceEqDiff, Nat.reduceAdd, Nat.reduceLeDiff, hll]
end

section
variable {env : Nat → Option Def} {fr : Fr} {σ σ' : St} {K : Fr → St → Prop} {Q : X → Fr → St → Prop}
def bp (l : List UInt8) : List PV := l.map fun b => .sc (.int .u8 b.toNat)
theorem mark_bytes (m : Lab) : (markS m).data.toList = m.1.data.toList ++ [61, 34] ++ esc m.2.data.toList ++ [34] := by
  simp [markS, escS, ByteArray.data_append]
def OS : List Nat := [7, 19, 24, 27, 49, 56, 59]
structure Wr (l : List Lab) (i : Nat) (m : Lab) (out : List UInt8) (fr : Fr) (σ : St) : Prop where
  f8 : fr 8 = .sl (labs l)
  f9 : fr 9 = .sc (.int .i64 l.length)
  f10 : fr 10 = .sc (.int .i64 i)
  f4 : fr 4 = .sc (.int .i64 i)
  f5 : ∃ g, fr 5 = .bx 2000005 g 2 0 0 ∧ σ.m 2000005 g = some ⟨2, [.agg [.sc (.string m.1), .sc (.string m.2)]], true, true⟩ ∧ g < σ.c 2000005
  g3 : Gat σ OS 1 false (fr 3) (bp out)
end

section
def mkLab (n v : List UInt8) : Lab := (⟨n.toArray⟩, ⟨v.toArray⟩)
def pl : Nat → List UInt8 → List Lab → Option (List Lab)
  | 0, _, out => some out
  | k + 1, rest, out => if rest = [125] then some out else if out ≠ [] ∧ [44].isPrefixOf rest = false then none else
      (oneL (if out = [] then rest else cutPre rest [44])).bind fun q => pl k q.2.2 (out ++ [mkLab q.1 q.2.1])
def parseS (s : List UInt8) : List Lab × Int := if [123].isPrefixOf s then (match pl 9 (s.drop 1) [] with
  | some out => if rightL out = true ∧ (textS out).data.toList = s then (out, 0) else ([], 6)
  | none => ([], 6)) else ([], 6)
theorem scan_esc' : ∀ (v : List UInt8) (acc t : List UInt8), scan (esc v ++ 34 :: t) acc = some (acc ++ v, t)
  | [], acc, t => by
    simp only [esc, List.flatMap_nil, List.nil_append, List.append_nil]
    cases t <;> simp [scan]
  | b :: v, acc, t => by
    have ih := scan_esc' v (acc ++ [b]) t
    have e : esc (b :: v) = (if b = 34 ∨ b = 92 then [92, b] else [b]) ++ esc v := by simp [esc]
    rw [e]
    split
    · rename_i h
      show scan (92 :: b :: (esc v ++ 34 :: t)) acc = _
      rw [scan, if_neg (by decide), if_pos rfl, ih]
      simp
    · rename_i h
      have h1 : b ≠ 34 := fun e => h (.inl e)
      have h2 : b ≠ 92 := fun e => h (.inr e)
      have hne : ∃ c r, esc v ++ 34 :: t = c :: r := by
        cases hq : esc v ++ 34 :: t with
        | nil => simp at hq
        | cons c r => exact ⟨c, r, rfl⟩
      obtain ⟨c, r, hcr⟩ := hne
      show scan (b :: (esc v ++ 34 :: t)) acc = _
      rw [hcr] at ih ⊢
      rw [scan, if_neg h1, if_neg h2, ih]
      simp
def NoEq (n : List UInt8) : Prop := ∀ b ∈ n, b ≠ 61
theorem occ_at (n t : List UInt8) : Lib.occAt (n ++ 61 :: 34 :: t) [61, 34] n.length = true := by
  simp [Lib.occAt, List.isPrefixOf]
theorem occ_not {n t : List UInt8} (h : NoEq n) {j : Nat} (hj : j < n.length) : Lib.occAt (n ++ 61 :: 34 :: t) [61, 34] j = false := by
  unfold Lib.occAt
  have hl : j < (n ++ 61 :: 34 :: t).length := by simp; omega
  rw [drop_at hl, List.getElem_append_left hj]
  have := h n[j] (List.getElem_mem hj)
  simp [List.isPrefixOf, Ne.symm this]
theorem cut_eq {n t : List UInt8} (h : NoEq n) : Lib.cut (n ++ 61 :: 34 :: t) [61, 34] = (n, t, true) := by
  have hi : Lib.index (n ++ 61 :: 34 :: t) [61, 34] = n.length := Lib.index_first (by simp) (occ_at n t) (fun j hj => occ_not h hj)
  unfold Lib.cut
  rw [hi, if_pos (by omega)]
  simp only [Int.toNat_natCast, Prod.mk.injEq, and_true]
  refine ⟨by simp, ?_⟩
  rw [List.drop_append, List.drop_eq_nil_of_le (by simp)]
  simp
theorem oneL_mark {n v t : List UInt8} (h : NoEq n) : oneL (n ++ 61 :: 34 :: (esc v ++ 34 :: t)) = some (n, v, t) := by
  unfold oneL
  rw [cut_eq h]
  simp only [if_true]
  rw [scan_esc']
  rfl
def tailB : List Lab → List UInt8
  | [] => [125]
  | m :: r => 44 :: (m.1.data.toList ++ 61 :: 34 :: (esc m.2.data.toList ++ 34 :: tailB r))
theorem mk_eta (m : Lab) : mkLab m.1.data.toList m.2.data.toList = m := by
  unfold mkLab
  rw [ba_eta, ba_eta]
theorem pl_tail : ∀ (k : Nat) (l out : List Lab), (∀ m ∈ l, NoEq m.1.data.toList) → out ≠ [] → l.length ≤ k → pl k (tailB l) out = some (out ++ l)
  | 0, l, out, _, _, hk => by
    have : l = [] := List.eq_nil_of_length_eq_zero (by omega)
    subst this; simp [pl]
  | k + 1, [], out, _, _, _ => by simp [pl, tailB]
  | k + 1, m :: r, out, h, ho, hk => by
    have hm := h m (by simp)
    rw [pl, if_neg (by simp [tailB]), if_neg (by simp [tailB, List.isPrefixOf]), if_neg ho]
    have hc : cutPre (tailB (m :: r)) [44] = m.1.data.toList ++ 61 :: 34 :: (esc m.2.data.toList ++ 34 :: tailB r) := by
      simp [cutPre, tailB, List.isPrefixOf]
    rw [hc, oneL_mark hm, Option.bind_some, mk_eta, pl_tail k r (out ++ [m]) (fun x hx => h x (by simp [hx])) (by simp) (by simp at hk; omega)]
    simp
theorem join_cc (a b sep : List UInt8) (c : List (List UInt8)) : Lib.join (a :: b :: c) sep = a ++ sep ++ Lib.join (b :: c) sep := by
  simp [Lib.join, List.intercalate]
theorem text_bytes (l : List Lab) : (textS l).data.toList = 123 :: (match tailB l with
    | 44 :: r => r
    | r => r) := by
  have key : ∀ l : List Lab, Lib.join (l.map fun m => (markS m).data.toList) [44] ++ [125] = match tailB l with
    | 44 :: r => r
    | r => r := by
    intro l
    induction l with
    | nil => rfl
    | cons m r ih =>
      cases r with
      | nil => simp [Lib.join, tailB, mark_bytes]
      | cons m2 r2 =>
        simp only [List.map_cons] at ih ⊢
        rw [join_cc, List.append_assoc, ih]
        simp [tailB, mark_bytes]
  rw [← key l]
  unfold textS bodyS
  simp [ByteArray.data_append]
theorem name_noEq {s : ByteArray} (h : nameB s = true) : NoEq s.data.toList := by
  intro b hb e
  subst e
  obtain ⟨i, hi⟩ := List.getElem?_of_mem hb
  have hlt : i < s.size := by simpa using (List.getElem?_eq_some_iff.1 hi).1
  unfold nameB at h
  simp only [Bool.and_eq_true, Bool.not_eq_true', decide_eq_false_iff_not] at h
  have hbad := found_no h.1 i hlt
  have hat : byteAt s i = 61 := by unfold byteAt; rw [hi]; rfl
  unfold badN at hbad
  rw [hat, show letterB 61 = false from by decide, show (decide ((61 : Int) > 57)) = true from by decide] at hbad
  simp at hbad
theorem right_noEq {l : List Lab} (h : rightL l = true) : ∀ m ∈ l, NoEq m.1.data.toList := by
  obtain ⟨hmay, _, _⟩ := right_iff.1 h
  intro m hm
  have := hmay m hm
  unfold mayB at this
  simp only [Bool.and_eq_true] at this
  exact name_noEq this.1
theorem parse_text {l : List Lab} (h : rightL l = true) : parseS (textS l).data.toList = (l, 0) := by
  have hne := right_noEq h
  obtain ⟨_, _, h8⟩ := right_iff.1 h
  have hp : pl 9 ((textS l).data.toList.drop 1) [] = some l := by
    rw [text_bytes]
    cases l with
    | nil => simp [tailB, pl]
    | cons m r =>
      simp only [tailB, List.drop_succ_cons, List.drop_zero]
      have hm := hne m (by simp)
      have hx : m.1.data.toList ++ 61 :: 34 :: (esc m.2.data.toList ++ 34 :: tailB r) ≠ [125] := by
        intro e
        have := congrArg List.length e
        simp at this
        omega
      rw [pl, if_neg hx, if_neg (by simp), if_pos rfl, oneL_mark hm, Option.bind_some, mk_eta]
      simp only [List.nil_append]
      rw [pl_tail 8 r [m] (fun x hx => hne x (by simp [hx])) (by simp) (by simp at h8; omega)]
      rfl
  unfold parseS
  rw [if_pos (by rw [text_bytes]; rfl), hp]
  simp only
  rw [if_pos ⟨h, trivial⟩]
end

def d37 : Def := (.code 2 [.tmp 4] (.seq (.rg false [⟨.some 4, .none, .mv (.c (.int .i64 0))⟩]) (.seq (.seq (.rg false [⟨.some 6, .none, .mv (.t 0)⟩, ⟨.some 7, .none, .lenL (.t 6)⟩, ⟨.some 8, .none, .mv (.c (.int .i64 0))⟩]) (.block 0 (.loop (.seq (.rg false [⟨.some 9, .none, .bin .lss (.t 8) (.t 7)⟩]) (.seq (.cond (.t 9) .skip (.exit 0)) (.seq (.block 1 (.seq (.rg false [⟨.some 10, .none, .mv (.t 8)⟩, ⟨.some 5, .none, .mv (.t 10)⟩]) (.seq (.rg false [⟨.some 11, .none, .mv (.t 1)⟩, ⟨.some 12, .none, .mv (.t 0)⟩, ⟨.some 13, .none, .mv (.t 5)⟩, ⟨.some 14, .none, .ia 1 (.t 12) (.t 13)⟩, ⟨.some 15, .none, .ld .none (.t 14)⟩, ⟨.some 16, .none, .bin .eql (.t 11) (.t 15)⟩]) (.cond (.t 16) (.seq (.rg false [⟨.some 17, .none, .mv (.t 5)⟩, ⟨.some 4, .none, .mv (.t 17)⟩]) .ret) .skip)))) (.rg false [⟨.some 18, .none, .bin .add (.t 8) (.c (.int .i64 1))⟩, ⟨.some 8, .none, .mv (.t 18)⟩]))))))) (.seq (.rg false [⟨.some 4, .none, .mv (.c (.int .i64 (-1)))⟩]) .ret))))
def d50 : Def := (.code 2 [.tmp 4] (.seq (.rg false [⟨.some 4, .none, .mv (.c (.bool false))⟩]) (.seq (.rg false [⟨.some 5, .none, .mv (.t 0)⟩, ⟨.some 6, .none, .mv (.t 1)⟩, ⟨.some 7, .none, .call 37 .pure [.t 5, .t 6]⟩, ⟨.some 8, .none, .bin .geq (.t 7) (.c (.int .i64 0))⟩, ⟨.some 4, .none, .mv (.t 8)⟩]) .ret)))
def d247 : Def := (.code 2 [.tmp 3] (.seq (.rg false [⟨.some 2, .none, .box (.t 0)⟩, ⟨.some 3, .none, .mv (.c (.bool false))⟩]) (.seq (.rg false [⟨.some 4, .none, .ld .none (.t 1)⟩, ⟨.some 5, .none, .fa 0 (.t 2)⟩, ⟨.some 6, .none, .ld .none (.t 5)⟩, ⟨.some 7, .none, .call 50 .pure [.t 4, .t 6]⟩, ⟨.some 8, .none, .un .not (.t 7)⟩, ⟨.some 3, .none, .mv (.t 8)⟩]) .ret)))
def d243 : Def := (.code 1 [.tmp 2] (.seq (.rg false [⟨.some 2, .none, .mv (.c (.slice .none 0 0))⟩]) (.seq (.rg false [⟨.some 3, .none, .mv (.c (.slice .none 0 0))⟩]) (.seq (.seq (.rg false [⟨.some 6, .none, .mv (.t 0)⟩, ⟨.some 7, .none, .mv (.t 0)⟩, ⟨.some 8, .none, .lenL (.t 7)⟩, ⟨.some 9, .none, .mnmx false [.t 8, .c (.int .i64 10)]⟩, ⟨.some 10, .none, .slcL 1 (.t 6) .none (.some (.t 9))⟩, ⟨.some 11, .none, .lenL (.t 10)⟩, ⟨.some 12, .none, .mv (.c (.int .i64 0))⟩]) (.block 0 (.loop (.seq (.rg false [⟨.some 13, .none, .bin .lss (.t 12) (.t 11)⟩]) (.seq (.cond (.t 13) .skip (.exit 0)) (.seq (.block 1 (.seq (.rg false [⟨.some 14, .none, .ia 1 (.t 10) (.t 12)⟩, ⟨.some 15, .none, .ld .none (.t 14)⟩, ⟨.some 5, .none, .mv (.t 15)⟩]) (.rg false [⟨.some 16, .none, .mv (.t 3)⟩, ⟨.some 17, .none, .mv (.t 5)⟩, ⟨.some 18, .none, .mv (.t 5)⟩, ⟨.some 19, .none, .lenS (.t 18)⟩, ⟨.some 20, .none, .mnmx false [.t 19, .c (.int .i64 70)]⟩, ⟨.some 21, .none, .slcS (.t 17) .none (.some (.t 20))⟩, ⟨.some 22, .none, .bsl 1 (.string ⟨#[]⟩) 1 [(0, .t 21)]⟩, ⟨.some 23, .none, .app 1 16 false (.t 16) (.t 22)⟩, ⟨.some 3, .none, .mv (.t 23)⟩]))) (.rg false [⟨.some 24, .none, .bin .add (.t 12) (.c (.int .i64 1))⟩, ⟨.some 12, .none, .mv (.t 24)⟩]))))))) (.seq (.rg false [⟨.some 25, .none, .mv (.t 3)⟩, ⟨.some 2, .none, .mv (.t 25)⟩]) .ret)))))
def d245 : Def := (.code 2 [.tmp 4] (.seq (.rg false [⟨.some 4, .none, .mv (.c (.slice .none 0 0))⟩]) (.seq (.rg false [⟨.some 11, .none, .mv (.c (.slice .none 0 0))⟩, ⟨.some 5, .none, .mv (.t 11)⟩]) (.seq (.seq (.rg false [⟨.some 12, .none, .mv (.t 0)⟩, ⟨.some 13, .none, .lenL (.t 12)⟩, ⟨.some 14, .none, .mv (.c (.int .i64 0))⟩]) (.block 0 (.loop (.seq (.rg false [⟨.some 15, .none, .bin .lss (.t 14) (.t 13)⟩]) (.seq (.cond (.t 15) .skip (.exit 0)) (.seq (.block 1 (.seq (.rg false [⟨.some 16, .none, .ia 2 (.t 12) (.t 14)⟩, ⟨.some 17, .none, .ld (.some 2) (.t 16)⟩, ⟨.some 7, .none, .box (.c (.agg #[.string ⟨#[]⟩, .string ⟨#[]⟩]))⟩, ⟨.none, .none, .st 2 (.t 7) (.t 17)⟩]) (.seq (.rg false [⟨.some 8, .none, .mv (.c (.bool false))⟩]) (.seq (.seq (.rg false [⟨.some 18, .none, .mv (.t 1)⟩, ⟨.some 19, .none, .lenL (.t 18)⟩, ⟨.some 20, .none, .mv (.c (.int .i64 0))⟩]) (.block 2 (.loop (.seq (.rg false [⟨.some 21, .none, .bin .lss (.t 20) (.t 19)⟩]) (.seq (.cond (.t 21) .skip (.exit 2)) (.seq (.block 3 (.seq (.rg false [⟨.some 22, .none, .ia 1 (.t 18) (.t 20)⟩, ⟨.some 23, .none, .ld .none (.t 22)⟩, ⟨.some 10, .none, .mv (.t 23)⟩]) (.rg false [⟨.some 24, .none, .mv (.t 8)⟩, ⟨.some 25, .none, .mv (.t 24)⟩, ⟨.some 26, .some (25, false), .mv (.t 10)⟩, ⟨.some 27, .some (25, false), .fa 0 (.t 7)⟩, ⟨.some 28, .some (25, false), .ld .none (.t 27)⟩, ⟨.some 29, .some (25, false), .bin .eql (.t 26) (.t 28)⟩, ⟨.some 30, .none, .pick (.t 25) (.c (.bool true)) (.t 29)⟩, ⟨.some 8, .none, .mv (.t 30)⟩]))) (.rg false [⟨.some 31, .none, .bin .add (.t 20) (.c (.int .i64 1))⟩, ⟨.some 20, .none, .mv (.t 31)⟩]))))))) (.seq (.rg false [⟨.some 32, .none, .mv (.t 8)⟩]) (.cond (.t 32) (.rg false [⟨.some 33, .none, .mv (.t 5)⟩, ⟨.some 34, .none, .ld (.some 2) (.t 7)⟩, ⟨.some 35, .none, .bsl 2 (.agg #[.string ⟨#[]⟩, .string ⟨#[]⟩]) 1 [(0, .t 34)]⟩, ⟨.some 36, .none, .app 2 32 false (.t 33) (.t 35)⟩, ⟨.some 5, .none, .mv (.t 36)⟩]) .skip)))))) (.rg false [⟨.some 37, .none, .bin .add (.t 14) (.c (.int .i64 1))⟩, ⟨.some 14, .none, .mv (.t 37)⟩]))))))) (.seq (.rg false [⟨.some 38, .none, .mv (.t 5)⟩, ⟨.some 4, .none, .mv (.t 38)⟩]) .ret)))))
def lx : List (Nat × Def) := [(37, d37), (50, d50), (247, d247), (243, d243), (245, d245)]
section
variable {env : Nat → Option Def} {fr : Fr} {σ σ' : St} {K : Fr → St → Prop} {Q : X → Fr → St → Prop}
def strs (l : List ByteArray) : List PV := l.map fun s => .sc (.string s)
theorem strs_len (l : List ByteArray) : (strs l).length = l.length := by simp [strs]
theorem strs_at {l : List ByteArray} {i : Nat} {s : ByteArray} (h : l[i]? = some s) : (strs l)[i]? = some (.sc (.string s)) := by simp [strs, h]
def nthS (l : List ByteArray) (i : Nat) : ByteArray := l[i]?.getD ⟨#[]⟩
theorem nthS_eq {l : List ByteArray} {i : Nat} (hi : i < l.length) : nthS l i = l[i] := by unfold nthS; rw [List.getElem?_eq_getElem hi]; rfl
def isS (l : List ByteArray) (s : ByteArray) (i : Nat) : Bool := s.toList == (nthS l i).toList
theorem a37 (X : Has lx env) {l : List ByteArray} (hn : l.length ≤ 9223372036854775807) (s : ByteArray) : AV env 37 [.sl (strs l), .sc (.string s)] = some (.sc (.int .i64 (found (isS l s) l.length))) := by
  refine AV_wp (X (37, d37) (by simp [lx])) rfl ?_
  have hll := strs_len l
  (repeat' first
    | refine w_seq ?_ | refine w_rg ?_ | refine wo_nil ?_ | refine g_skU ?_ | refine g_skT ?_ | refine g_skF ?_
    | ((first | apply s_plain | apply s_void | apply s_guard | apply g_goT | apply g_goF); · simp only [go_sem, Nat.reduceEqDiff, Nat.reduceAdd, Nat.reduceLeDiff, hll]; (first | done | rfl))
    | ((first | apply g_T | apply g_F | apply g_gT | apply g_gF); · intro q1_; (first | intro q2_ | have q2_ := q1_); simp only [go_sem, Nat.reduceEqDiff, Nat.reduceAdd, Nat.reduceLeDiff, hll, q1_, q2_]; (first | done | rfl))
    | fail
    )
  refine w_block (w_range l.length hn (fun i fr σ => fr 0 = .sl (strs l) ∧ fr 1 = .sc (.string s) ∧ ∀ j, j < i → isS l s j = false) (by decide) ?_ ?_ ?_ _ _ ?_ ?_ ?_)
  · rintro i fr σ v ⟨h0, h1, h2⟩
    refine ⟨⟨?_, ?_, h2⟩, ⟨?_, ?_, h2⟩, ⟨?_, ?_, h2⟩⟩ <;> simp only [go_sem, Nat.reduceEqDiff, Nat.reduceAdd, Nat.reduceLeDiff, h0, h1]
  · rintro i fr σ hi ⟨h0, h1, h3⟩ hti htn
    have hy := strs_at (List.getElem?_eq_getElem hi)
    have hni := nthS_eq hi
    have e1 : (0 : Int) ≤ (i : Int) ∧ (i : Int) < (l.length : Int) := by omega
    refine w_block ?_
    (repeat' first
    | refine w_seq ?_ | refine w_rg ?_ | refine wo_nil ?_ | refine g_skU ?_ | refine g_skT ?_ | refine g_skF ?_
    | ((first | apply s_plain | apply s_void | apply s_guard | apply g_goT | apply g_goF); · simp only [go_sem, Nat.reduceEqDiff, Nat.reduceAdd, Nat.reduceLeDiff, h0, h1, hti, e1, hll, Int.toNat_natCast, hy]; (first | done | rfl))
    | ((first | apply g_T | apply g_F | apply g_gT | apply g_gF); · intro q1_; (first | intro q2_ | have q2_ := q1_); simp only [go_sem, Nat.reduceEqDiff, Nat.reduceAdd, Nat.reduceLeDiff, h0, h1, hti, e1, hll, Int.toNat_natCast, hy, q1_, q2_]; (first | done | rfl))
    | fail
    )
    have hbad : isS l s i = (s.toList == l[i].toList) := by unfold isS; rw [hni]
    rw [← hbad]
    cases hpi : isS l s i with
    | true =>
      (repeat' first
    | refine w_seq ?_ | refine w_rg ?_ | refine wo_nil ?_ | refine g_skU ?_ | refine g_skT ?_ | refine g_skF ?_
    | ((first | apply s_plain | apply s_void | apply s_guard | apply g_goT | apply g_goF); · simp only [go_sem, Nat.reduceEqDiff, Nat.reduceAdd, Nat.reduceLeDiff]; (first | done | rfl))
    | ((first | apply g_T | apply g_F | apply g_gT | apply g_gF); · intro q1_; (first | intro q2_ | have q2_ := q1_); simp only [go_sem, Nat.reduceEqDiff, Nat.reduceAdd, Nat.reduceLeDiff, q1_, q2_]; (first | done | rfl))
    | (apply w_condX; · simp only [go_sem, Nat.reduceEqDiff, Nat.reduceAdd, Nat.reduceLeDiff]; (first | done | rfl)); (first | refine wcd_T ?_ | refine wcd_F ?_)
    | refine w_skip ?_ | refine w_exit ?_ | refine w_ret ?_
    | fail
    )
      exact ⟨.inr rfl, by simp only [go_sem, Nat.reduceEqDiff, Nat.reduceAdd, Nat.reduceLeDiff, retOf, resOf, found_hit hi h3 hpi]⟩
    | false =>
      (repeat' first
    | refine w_seq ?_ | refine w_rg ?_ | refine wo_nil ?_ | refine g_skU ?_ | refine g_skT ?_ | refine g_skF ?_
    | ((first | apply s_plain | apply s_void | apply s_guard | apply g_goT | apply g_goF); · simp only [go_sem, Nat.reduceEqDiff, Nat.reduceAdd, Nat.reduceLeDiff]; (first | done | rfl))
    | ((first | apply g_T | apply g_F | apply g_gT | apply g_gF); · intro q1_; (first | intro q2_ | have q2_ := q1_); simp only [go_sem, Nat.reduceEqDiff, Nat.reduceAdd, Nat.reduceLeDiff, q1_, q2_]; (first | done | rfl))
    | (apply w_condX; · simp only [go_sem, Nat.reduceEqDiff, Nat.reduceAdd, Nat.reduceLeDiff]; (first | done | rfl)); (first | refine wcd_T ?_ | refine wcd_F ?_)
    | refine w_skip ?_ | refine w_exit ?_ | refine w_ret ?_
    | fail
    )
      refine ⟨⟨?_, ?_, fun j hj => ?_⟩, ?_, ?_⟩
      · simp only [go_sem, Nat.reduceEqDiff, Nat.reduceAdd, Nat.reduceLeDiff, h0]
      · simp only [go_sem, Nat.reduceEqDiff, Nat.reduceAdd, Nat.reduceLeDiff, h1]
      · by_cases hji : j = i
        · rw [hji]; exact hpi
        · exact h3 j (by omega)
      · simp only [go_sem, Nat.reduceEqDiff, Nat.reduceAdd, Nat.reduceLeDiff, hti]
      · simp only [go_sem, Nat.reduceEqDiff, Nat.reduceAdd, Nat.reduceLeDiff, htn]
  · rintro fr σ ⟨h0, h1, h3⟩
    try simp only [if_true]
    (repeat' first
    | refine w_seq ?_ | refine w_rg ?_ | refine wo_nil ?_ | refine g_skU ?_ | refine g_skT ?_ | refine g_skF ?_
    | ((first | apply s_plain | apply s_void | apply s_guard | apply g_goT | apply g_goF); · simp only [go_sem, Nat.reduceEqDiff, Nat.reduceAdd, Nat.reduceLeDiff]; (first | done | rfl))
    | ((first | apply g_T | apply g_F | apply g_gT | apply g_gF); · intro q1_; (first | intro q2_ | have q2_ := q1_); simp only [go_sem, Nat.reduceEqDiff, Nat.reduceAdd, Nat.reduceLeDiff, q1_, q2_]; (first | done | rfl))
    | (apply w_condX; · simp only [go_sem, Nat.reduceEqDiff, Nat.reduceAdd, Nat.reduceLeDiff]; (first | done | rfl)); (first | refine wcd_T ?_ | refine wcd_F ?_)
    | refine w_skip ?_ | refine w_exit ?_ | refine w_ret ?_
    | fail
    )
    exact ⟨.inr rfl, by simp only [go_sem, Nat.reduceEqDiff, Nat.reduceAdd, Nat.reduceLeDiff, retOf, resOf, found_none h3]⟩
  · refine ⟨?_, ?_, fun j hj => by omega⟩ <;> simp only [go_sem, Nat.reduceEqDiff, Nat.reduceAdd, Nat.reduceLeDiff]
  · simp only [go_sem, Nat.reduceEqDiff, Nat.reduceAdd, Nat.reduceLeDiff]
  · simp only [go_sem, Nat.reduceEqDiff, Nat.reduceAdd, Nat.reduceLeDiff, hll]
end

def itoaS (n : Int) : ByteArray := ⟨(Lib.itoa n).toArray⟩
def signT (how : Int) : ByteArray := if how = 1 then ⟨#[62]⟩ else if how = 2 then ⟨#[62, 61]⟩ else if how = 3 then ⟨#[60]⟩ else if how = 4 then ⟨#[60, 61]⟩ else if how = 5 then ⟨#[61, 61]⟩ else ⟨#[]⟩
def wordsR (r : Rule) : List ByteArray := [r.name, r.metric, signT r.how, itoaS r.limit, itoaS r.for_, itoaS r.keep, itoaS r.tries, textS r.labels]
def howP (s : ByteArray) : Int := if s = ⟨#[]⟩ then 0 else if s = ⟨#[62]⟩ then 1 else if s = ⟨#[62, 61]⟩ then 2 else if s = ⟨#[60]⟩ then 3 else if s = ⟨#[60, 61]⟩ then 4 else if s = ⟨#[61, 61]⟩ then 5 else -1
def emptyR : Rule := ⟨⟨#[]⟩, ⟨#[]⟩, 0, 0, 0, 0, 0, []⟩
def ruleP (l : List ByteArray) : Rule := ⟨l.getD 0 ⟨#[]⟩, l.getD 1 ⟨#[]⟩, howP (l.getD 2 ⟨#[]⟩), numP (l.getD 3 ⟨#[]⟩).data.toList, numP (l.getD 4 ⟨#[]⟩).data.toList, numP (l.getD 5 ⟨#[]⟩).data.toList, numP (l.getD 6 ⟨#[]⟩).data.toList, (parseS (l.getD 7 ⟨#[]⟩).data.toList).1⟩
def readP (l : List ByteArray) : Rule × Int := if l.length = 8 ∧ rightR (ruleP l) = true ∧ wordsR (ruleP l) = l then (ruleP l, 0) else (emptyR, 6)
structure RightR (r : Rule) : Prop where
  how : 1 ≤ r.how ∧ r.how ≤ 5
  limit : -1099511627776 ≤ r.limit ∧ r.limit ≤ 1099511627776
  for_ : -1099511627776 ≤ r.for_ ∧ r.for_ ≤ 1099511627776
  keep : -1099511627776 ≤ r.keep ∧ r.keep ≤ 1099511627776
  tries : -1099511627776 ≤ r.tries ∧ r.tries ≤ 1099511627776
  labels : rightL r.labels = true
theorem right_parts {r : Rule} (h : rightR r = true) : RightR r := by
  unfold rightR restR timeB at h
  simp only [Bool.and_eq_true, decide_eq_true_eq] at h
  refine ⟨⟨?_, ?_⟩, ⟨?_, ?_⟩, ⟨?_, ?_⟩, ⟨?_, ?_⟩, ⟨?_, ?_⟩, ?_⟩ <;> first | omega | (simp_all; done) | (obtain ⟨⟨⟨⟨⟨h1, h2⟩, h3⟩, h4⟩, h5⟩, h6⟩ := h; first | omega | simp_all)
theorem itoaS_bytes (n : Int) : (itoaS n).data.toList = Lib.itoa n := rfl
theorem howP_sign {how : Int} (h : 1 ≤ how ∧ how ≤ 5) : howP (signT how) = how := by
  obtain rfl | rfl | rfl | rfl | rfl : how = 1 ∨ how = 2 ∨ how = 3 ∨ how = 4 ∨ how = 5 := by omega
  all_goals decide
theorem readP_words {r : Rule} (h : rightR r = true) : readP (wordsR r) = (r, 0) := by
  have p := right_parts h
  have e : ruleP (wordsR r) = r := by
    unfold ruleP wordsR
    simp only [List.getD_cons_zero, List.getD_cons_succ, itoaS_bytes, howP_sign p.how, numP_itoa p.limit, numP_itoa p.for_, numP_itoa p.keep, numP_itoa p.tries, parse_text p.labels]
  unfold readP
  rw [e, if_pos ⟨rfl, h, rfl⟩]
theorem words_inj {a b : Rule} (ha : rightR a = true) (hb : rightR b = true) (h : wordsR a = wordsR b) : a = b := by
  have h1 := readP_words ha
  have h2 := readP_words hb
  rw [← h, h1] at h2
  exact congrArg Prod.fst h2

def d193 : Def := (.code 1 [.tmp 2, .tmp 3] (.seq (.rg false [⟨.some 1, .none, .box (.t 0)⟩, ⟨.some 2, .none, .mv (.c (.slice .none 0 0))⟩, ⟨.some 3, .none, .mv (.c (.int .i64 0))⟩]) (.seq (.seq (.rg false [⟨.some 9, .none, .ld (.some 8) (.t 1)⟩, ⟨.some 10, .none, .call 105 .pure [.t 9]⟩, ⟨.some 11, .none, .un .not (.t 10)⟩]) (.cond (.t 11) (.seq (.rg false [⟨.some 2, .none, .mv (.c (.slice .none 0 0))⟩, ⟨.some 3, .none, .mv (.c (.int .i64 1))⟩]) .ret) .skip)) (.seq (.rg false [⟨.some 13, .none, .fa 7 (.t 1)⟩, ⟨.some 14, .none, .ld .none (.t 13)⟩, ⟨.some 15, .none, .call 202 .pure [.t 14]⟩, ⟨.some 12, .none, .mv (.t 15)⟩, ⟨.some 16, .none, .ext (.t 12) 0⟩, ⟨.some 17, .none, .ext (.t 12) 1⟩, ⟨.some 4, .none, .mv (.t 16)⟩, ⟨.some 5, .none, .mv (.t 17)⟩]) (.seq (.rg true [⟨.some 18, .none, .fa 0 (.t 1)⟩, ⟨.some 19, .none, .ld .none (.t 18)⟩, ⟨.some 20, .none, .fa 1 (.t 1)⟩, ⟨.some 21, .none, .ld .none (.t 20)⟩, ⟨.some 22, .none, .call 115 .strict []⟩, ⟨.some 23, .none, .fa 2 (.t 1)⟩, ⟨.some 24, .none, .ld .none (.t 23)⟩, ⟨.some 25, .none, .ixa 2 6 (.some 2) (.t 22) (.t 24)⟩, ⟨.some 26, .none, .fld 0 .none (.t 25)⟩, ⟨.some 27, .none, .bsl 1 (.string ⟨#[]⟩) 3 [(0, .t 19), (1, .t 21), (2, .t 26)]⟩, ⟨.some 6, .none, .mv (.t 27)⟩]) (.seq (.seq (.rg false [⟨.some 28, .none, .fa 3 (.t 1)⟩, ⟨.some 29, .none, .ld .none (.t 28)⟩, ⟨.some 30, .none, .fa 4 (.t 1)⟩, ⟨.some 31, .none, .ld .none (.t 30)⟩, ⟨.some 32, .none, .fa 5 (.t 1)⟩, ⟨.some 33, .none, .ld .none (.t 32)⟩, ⟨.some 34, .none, .fa 6 (.t 1)⟩, ⟨.some 35, .none, .ld .none (.t 34)⟩, ⟨.some 36, .none, .bsl 1 (.int .i64 0) 4 [(0, .t 29), (1, .t 31), (2, .t 33), (3, .t 35)]⟩, ⟨.some 37, .none, .lenL (.t 36)⟩, ⟨.some 38, .none, .mv (.c (.int .i64 0))⟩]) (.block 0 (.loop (.seq (.rg false [⟨.some 39, .none, .bin .lss (.t 38) (.t 37)⟩]) (.seq (.cond (.t 39) .skip (.exit 0)) (.seq (.block 1 (.seq (.rg false [⟨.some 40, .none, .ia 1 (.t 36) (.t 38)⟩, ⟨.some 41, .none, .ld .none (.t 40)⟩, ⟨.some 8, .none, .mv (.t 41)⟩]) (.rg false [⟨.some 42, .none, .mv (.t 6)⟩, ⟨.some 43, .none, .mv (.t 8)⟩, ⟨.some 44, .none, .call 203 .pure [.t 43]⟩, ⟨.some 45, .none, .bsl 1 (.string ⟨#[]⟩) 1 [(0, .t 44)]⟩, ⟨.some 46, .none, .app 1 16 false (.t 42) (.t 45)⟩, ⟨.some 6, .none, .mv (.t 46)⟩]))) (.rg false [⟨.some 47, .none, .bin .add (.t 38) (.c (.int .i64 1))⟩, ⟨.some 38, .none, .mv (.t 47)⟩]))))))) (.seq (.rg false [⟨.some 48, .none, .mv (.t 6)⟩, ⟨.some 49, .none, .mv (.t 4)⟩, ⟨.some 50, .none, .bsl 1 (.string ⟨#[]⟩) 1 [(0, .t 49)]⟩, ⟨.some 51, .none, .app 1 16 false (.t 48) (.t 50)⟩, ⟨.some 2, .none, .mv (.t 51)⟩, ⟨.some 3, .none, .mv (.c (.int .i64 0))⟩]) .ret)))))))
def d36 : Def := (.code 2 [.tmp 4] (.seq (.rg false [⟨.some 4, .none, .mv (.c (.bool false))⟩]) (.seq (.seq (.rg false [⟨.some 6, .none, .mv (.t 0)⟩, ⟨.some 7, .none, .lenL (.t 6)⟩, ⟨.some 8, .none, .mv (.t 1)⟩, ⟨.some 9, .none, .lenL (.t 8)⟩, ⟨.some 10, .none, .bin .neq (.t 7) (.t 9)⟩]) (.cond (.t 10) (.seq (.rg false [⟨.some 4, .none, .mv (.c (.bool false))⟩]) .ret) .skip)) (.seq (.seq (.rg false [⟨.some 11, .none, .mv (.t 0)⟩, ⟨.some 12, .none, .lenL (.t 11)⟩, ⟨.some 13, .none, .mv (.c (.int .i64 0))⟩]) (.block 0 (.loop (.seq (.rg false [⟨.some 14, .none, .bin .lss (.t 13) (.t 12)⟩]) (.seq (.cond (.t 14) .skip (.exit 0)) (.seq (.block 1 (.seq (.rg false [⟨.some 15, .none, .mv (.t 13)⟩, ⟨.some 5, .none, .mv (.t 15)⟩]) (.seq (.rg true [⟨.some 16, .none, .mv (.t 0)⟩, ⟨.some 17, .none, .mv (.t 5)⟩, ⟨.some 18, .none, .ia 1 (.t 16) (.t 17)⟩, ⟨.some 19, .none, .ld .none (.t 18)⟩, ⟨.some 20, .none, .mv (.t 1)⟩, ⟨.some 21, .none, .mv (.t 5)⟩, ⟨.some 22, .none, .ia 1 (.t 20) (.t 21)⟩, ⟨.some 23, .none, .ld .none (.t 22)⟩, ⟨.some 24, .none, .bin .neq (.t 19) (.t 23)⟩]) (.cond (.t 24) (.seq (.rg false [⟨.some 4, .none, .mv (.c (.bool false))⟩]) .ret) .skip)))) (.rg false [⟨.some 25, .none, .bin .add (.t 13) (.c (.int .i64 1))⟩, ⟨.some 13, .none, .mv (.t 25)⟩]))))))) (.seq (.rg false [⟨.some 4, .none, .mv (.c (.bool true))⟩]) .ret)))))
def lha : List (Nat × Def) := [(203, .prim (pureF itoaF))]
def lhb : List (Nat × Def) := [(193, d193)]
def lhd : List (Nat × Def) := [(36, d36)]
section
variable {env : Nat → Option Def} {fr : Fr} {σ : St} {K : Fr → St → Prop} {Q : X → Fr → St → Prop}
theorem a203 (A : Has lha env) {n : Int} (h1 : -9223372036854775808 ≤ n) (h2 : n ≤ 9223372036854775807) : AV env 203 [.sc (.int .i64 n)] = some (.sc (.string (itoaS n))) := by
  have h := A (203, .prim (pureF itoaF)) (by simp [lha])
  refine AV_of (σ := St.nil) (r := .sc (.string (itoaS n))) ?_ rfl
  rw [EV_prim h]
  simp only [pureF, mapM_cons', mapM_nil', scOf, Option.bind_some, itoaF, if_pos (And.intro h1 h2), Option.map_some]
  rfl
def wayF (how : Int) : PV := if how = 1 then .fn 123 [] [] else if how = 2 then .fn 124 [] [] else if how = 3 then .fn 125 [] [] else if how = 4 then .fn 126 [] [] else .fn 127 [] []
theorem way_at {how : Int} (h : 1 ≤ how ∧ how ≤ 5) (E : Ev) (s : Nat) (fr : Fr) (σ : St) {a b : Nat} (ha : pa fr (.t a) = .agg waysL) (hb : pa fr (.t b) = .sc (.int .i64 how)) :
    evO E s fr σ (.ixa 2 6 (some 2) (.t a) (.t b)) = some (.agg [.sc (.string (signT how)), wayF how], σ) := by
  rw [e_ixa, ha, hb]
  obtain rfl | rfl | rfl | rfl | rfl : how = 1 ∨ how = 2 ∨ how = 3 ∨ how = 4 ∨ how = 5 := by omega
  all_goals rfl
theorem strs_snoc (l : List ByteArray) (s : ByteArray) : strs l ++ [.sc (.string s)] = strs (l ++ [s]) := by simp [strs]
def nums (r : Rule) : List Int := [r.limit, r.for_, r.keep, r.tries]
def headW (r : Rule) : List ByteArray := [r.name, r.metric, signT r.how]
theorem nums_in {r : Rule} (p : RightR r) {n : Int} (h : n ∈ nums r) : -1099511627776 ≤ n ∧ n ≤ 1099511627776 := by
  simp only [nums, List.mem_cons, List.not_mem_nil, or_false] at h
  rcases h with rfl | rfl | rfl | rfl
  · exact p.limit
  · exact p.for_
  · exact p.keep
  · exact p.tries
theorem strs_fzd (σ : St) (d : Nat) (l : List ByteArray) : (strs l).mapM (fz σ (d + 1)) = some (strs l) := by
  induction l with
  | nil => rfl
  | cons m L ih =>
    show List.mapM (fz σ (d + 1)) (.sc (.string m) :: strs L) = _
    rw [mapM_cons', ih]
    rfl
theorem a193 (H : Has la env) (G : Has lc env) (F : Has lf env) (I : Has lg env) (P : Has lp env) (U : Has lu env) (A : Has lha env) (W : Has lhb env) {r : Rule} (hr : r.Fits) :
    AV env 193 [rule r] = some (.tu [.sl (strs (if rightR r = true then wordsR r else [])), .sc (.int .i64 (if rightR r = true then 0 else 1))]) := by
  have h105 := a105 H G F I hr
  have h202 := a202 (la_la0 H) G P U hr.l hr.s
  have h115 := a115 I
  refine AV_wp (W (193, d193) (by simp [lhb])) rfl ?_
  unfold rule at h105 ⊢
  cases hb : rightR r with
  | false =>
    rw [hb] at h105
    (repeat' first
    | refine w_seq ?_ | refine w_rg ?_ | refine wo_nil ?_ | refine g_skU ?_ | refine g_skT ?_ | refine g_skF ?_
    | ((first | apply s_plain | apply s_void | apply s_guard | apply g_goT | apply g_goF); · simp only [go_sem, Nat.reduceEqDiff, Nat.reduceAdd, Nat.reduceLeDiff, h105]; (first | done | rfl))
    | ((first | apply g_T | apply g_F | apply g_gT | apply g_gF); · intro q1_; (first | intro q2_ | have q2_ := q1_); simp only [go_sem, Nat.reduceEqDiff, Nat.reduceAdd, Nat.reduceLeDiff, h105, q1_, q2_]; (first | done | rfl))
    | (apply w_condX; · simp only [go_sem, Nat.reduceEqDiff, Nat.reduceAdd, Nat.reduceLeDiff, h105]; (first | done | rfl)); (first | refine wcd_T ?_ | refine wcd_F ?_)
    | refine w_skip ?_ | refine w_exit ?_ | refine w_ret ?_
    | fail
    )
    exact ⟨by first | exact .inr rfl | exact .inr trivial | exact .inl rfl, by simp only [go_sem, Nat.reduceEqDiff, Nat.reduceAdd, Nat.reduceLeDiff, retOf, resOf]; first | done | rfl⟩
  | true =>
    rw [hb] at h105
    have p := right_parts hb
    rw [p.labels] at h202
    simp only [if_true] at h202
    (repeat' first
    | refine w_seq ?_ | refine w_rg ?_ | refine wo_nil ?_ | refine g_skU ?_ | refine g_skT ?_ | refine g_skF ?_
    | ((first | apply s_plain | apply s_void | apply s_guard | apply g_goT | apply g_goF); · simp only [go_sem, Nat.reduceEqDiff, Nat.reduceAdd, Nat.reduceLeDiff, h105]; (first | done | rfl))
    | ((first | apply g_T | apply g_F | apply g_gT | apply g_gF); · intro q1_; (first | intro q2_ | have q2_ := q1_); simp only [go_sem, Nat.reduceEqDiff, Nat.reduceAdd, Nat.reduceLeDiff, h105, q1_, q2_]; (first | done | rfl))
    | (apply w_condX; · simp only [go_sem, Nat.reduceEqDiff, Nat.reduceAdd, Nat.reduceLeDiff, h105]; (first | done | rfl)); (first | refine wcd_T ?_ | refine wcd_F ?_)
    | refine w_skip ?_ | refine w_exit ?_ | refine w_ret ?_
    | fail
    )
    (repeat' first
    | refine w_seq ?_ | refine w_rg ?_ | refine wo_nil ?_ | refine g_skU ?_ | refine g_skT ?_ | refine g_skF ?_
    | ((first | apply s_plain | apply s_void | apply s_guard | apply g_goT | apply g_goF); · simp only [go_sem, Nat.reduceEqDiff, Nat.reduceAdd, Nat.reduceLeDiff, h202]; (first | done | rfl))
    | ((first | apply g_T | apply g_F | apply g_gT | apply g_gF); · intro q1_; (first | intro q2_ | have q2_ := q1_); simp only [go_sem, Nat.reduceEqDiff, Nat.reduceAdd, Nat.reduceLeDiff, h202, q1_, q2_]; (first | done | rfl))
    | fail
    )
    (repeat' first
    | refine w_seq ?_ | refine w_rg ?_ | refine wo_nil ?_ | refine g_skU ?_ | refine g_skT ?_ | refine g_skF ?_
    | ((first | apply s_plain | apply s_void | apply s_guard | apply g_goT | apply g_goF); · simp only [go_sem, Nat.reduceEqDiff, Nat.reduceAdd, Nat.reduceLeDiff, h115]; (first | done | rfl))
    | ((first | apply g_T | apply g_F | apply g_gT | apply g_gF); · intro q1_; (first | intro q2_ | have q2_ := q1_); simp only [go_sem, Nat.reduceEqDiff, Nat.reduceAdd, Nat.reduceLeDiff, h115, q1_, q2_]; (first | done | rfl))
    | fail
    )
    refine s_plain (way_at p.how _ _ _ _ (by simp only [go_sem, Nat.reduceEqDiff, Nat.reduceAdd, Nat.reduceLeDiff]) (by simp only [go_sem, Nat.reduceEqDiff, Nat.reduceAdd, Nat.reduceLeDiff])) ?_
    (repeat' first
    | refine w_seq ?_ | refine w_rg ?_ | refine wo_nil ?_ | refine g_skU ?_ | refine g_skT ?_ | refine g_skF ?_
    | ((first | apply s_plain | apply s_void | apply s_guard | apply g_goT | apply g_goF); · simp only [go_sem, Nat.reduceEqDiff, Nat.reduceAdd, Nat.reduceLeDiff, List.replicate_succ, List.replicate_zero, List.set_cons_zero, List.set_cons_succ]; (first | done | rfl))
    | ((first | apply g_T | apply g_F | apply g_gT | apply g_gF); · intro q1_; (first | intro q2_ | have q2_ := q1_); simp only [go_sem, Nat.reduceEqDiff, Nat.reduceAdd, Nat.reduceLeDiff, List.replicate_succ, List.replicate_zero, List.set_cons_zero, List.set_cons_succ, q1_, q2_]; (first | done | rfl))
    | fail
    )
    refine w_block (w_range 4 (by omega) (fun i fr σ => fr 4 = .sc (.string (textS r.labels)) ∧ (∃ g, fr 36 = .ob 36 g 1 0 4 ∧ σ.m 36 g = some ⟨1, (nums r).map fun n => .sc (.int .i64 n), true, true⟩ ∧ g < σ.c 36) ∧ Gat σ [27, 46] 1 false (fr 6) (strs (headW r ++ ((nums r).take i).map itoaS))) (by decide) ?_ ?_ ?_ _ _ ?_ ?_ ?_)
    · rintro i fr σ v ⟨h0, ⟨g, h1, h2⟩, h3⟩
      refine ⟨⟨?_, ⟨g, ?_, h2⟩, ?_⟩, ⟨?_, ⟨g, ?_, h2⟩, ?_⟩, ⟨?_, ⟨g, ?_, h2⟩, ?_⟩⟩ <;> simp only [go_sem, Nat.reduceEqDiff, Nat.reduceAdd, Nat.reduceLeDiff, h0, h1, h3]
    · rintro i fr σ hi ⟨h4, ⟨g, h36, hm, hgc⟩, hg⟩ hti htn
      have hil : i < (nums r).length := hi
      have hx : ((nums r).map fun n => PV.sc (.int .i64 n))[i]? = some (.sc (.int .i64 (nums r)[i])) := by rw [List.getElem?_map, List.getElem?_eq_getElem hil]; rfl
      have hr := nums_in p (List.getElem_mem hil)
      have h203 := a203 A (n := (nums r)[i]) (by omega) (by omega)
      have e1 : (0 : Int) ≤ (i : Int) ∧ (i : Int) < 4 := by omega
      have e1' : (0 : Int) ≤ (i : Int) ∧ (i : Int) < ((4 : Nat) : Int) := by omega
      have e2 : strs (headW r ++ ((nums r).take (i + 1)).map itoaS) = strs (headW r ++ ((nums r).take i).map itoaS) ++ [.sc (.string (itoaS (nums r)[i]))] := by
        rw [strs_snoc, List.take_succ_eq_append_getElem hil, List.map_append, List.append_assoc]; rfl
      have hlen : (strs (headW r ++ ((nums r).take i).map itoaS)).length ≤ 7 := by
        rw [strs_len, List.length_append, List.length_map, List.length_take]
        show 3 + min i 4 ≤ 7
        omega
      refine w_block ?_
      (repeat' first
    | refine w_seq ?_ | refine w_rg ?_ | refine wo_nil ?_ | refine g_skU ?_ | refine g_skT ?_ | refine g_skF ?_
    | ((first | apply s_plain | apply s_void | apply s_guard | apply g_goT | apply g_goF); · simp only [go_sem, Nat.reduceEqDiff, Nat.reduceAdd, Nat.reduceLeDiff, h36, hti, e1, e1', hm, Int.toNat_natCast, hx, h203, Nat.zero_add]; (first | done | rfl))
    | ((first | apply g_T | apply g_F | apply g_gT | apply g_gF); · intro q1_; (first | intro q2_ | have q2_ := q1_); simp only [go_sem, Nat.reduceEqDiff, Nat.reduceAdd, Nat.reduceLeDiff, h36, hti, e1, e1', hm, Int.toNat_natCast, hx, h203, Nat.zero_add, q1_, q2_]; (first | done | rfl))
    | fail
    )
      (repeat' first
    | refine w_seq ?_ | refine w_rg ?_ | refine wo_nil ?_ | refine g_skU ?_ | refine g_skT ?_ | refine g_skF ?_
    | ((first | apply s_plain | apply s_void | apply s_guard | apply g_goT | apply g_goF); · simp only [go_sem, Nat.reduceEqDiff, Nat.reduceAdd, Nat.reduceLeDiff, List.replicate_succ, List.replicate_zero, List.set_cons_zero]; (first | done | rfl))
    | ((first | apply g_T | apply g_F | apply g_gT | apply g_gF); · intro q1_; (first | intro q2_ | have q2_ := q1_); simp only [go_sem, Nat.reduceEqDiff, Nat.reduceAdd, Nat.reduceLeDiff, List.replicate_succ, List.replicate_zero, List.set_cons_zero, q1_, q2_]; (first | done | rfl))
    | fail
    )
      refine s_gatL (os := [27, 46]) (w := false) (xs := strs (headW r ++ ((nums r).take i).map itoaS)) (ys := [.sc (.string (itoaS (nums r)[i]))]) (by simp only [go_sem, Nat.reduceEqDiff, Nat.reduceAdd, Nat.reduceLeDiff]; exact hg.new _) (by simp only [go_sem, Nat.reduceEqDiff, Nat.reduceAdd, Nat.reduceLeDiff, srcOf, elemsOf, List.drop_zero, List.replicate_succ, List.replicate_zero, List.set_cons_zero]) rfl (by simp only [List.length_cons, List.length_nil]; omega) ?_
      intro p σ' hg2 hk
      simp only [Bool.false_and] at hg2
      rw [← e2] at hg2
      (repeat' first
    | refine w_seq ?_ | refine w_rg ?_ | refine wo_nil ?_ | refine g_skU ?_ | refine g_skT ?_ | refine g_skF ?_
    | ((first | apply s_plain | apply s_void | apply s_guard | apply g_goT | apply g_goF); · simp only [go_sem, Nat.reduceEqDiff, Nat.reduceAdd, Nat.reduceLeDiff]; (first | done | rfl))
    | ((first | apply g_T | apply g_F | apply g_gT | apply g_gF); · intro q1_; (first | intro q2_ | have q2_ := q1_); simp only [go_sem, Nat.reduceEqDiff, Nat.reduceAdd, Nat.reduceLeDiff, q1_, q2_]; (first | done | rfl))
    | fail
    )
      refine ⟨⟨?_, ⟨g, ?_, ?_, ?_⟩, ?_⟩, ?_, ?_⟩
      · simp only [go_sem, Nat.reduceEqDiff, Nat.reduceAdd, Nat.reduceLeDiff, h4]
      · simp only [go_sem, Nat.reduceEqDiff, Nat.reduceAdd, Nat.reduceLeDiff, h36]
      · rw [hk.2 36 g (by decide) (by simp only [new_c]; split <;> omega), new_m, if_neg (fun h => absurd h.1 (by decide))]; exact hm
      · exact Nat.lt_of_lt_of_le (by simp only [new_c]; split <;> omega : g < _) (hk.1 36)
      · simp only [go_sem, Nat.reduceEqDiff, Nat.reduceAdd, Nat.reduceLeDiff]; exact hg2.mono (by decide)
      · simp only [go_sem, Nat.reduceEqDiff, Nat.reduceAdd, Nat.reduceLeDiff, hti]
      · simp only [go_sem, Nat.reduceEqDiff, Nat.reduceAdd, Nat.reduceLeDiff, htn]
    · rintro fr σ ⟨h4, ⟨g, h36, hm, hgc⟩, hg⟩
      try simp only [if_true]
      (repeat' first
    | refine w_seq ?_ | refine w_rg ?_ | refine wo_nil ?_ | refine g_skU ?_ | refine g_skT ?_ | refine g_skF ?_
    | ((first | apply s_plain | apply s_void | apply s_guard | apply g_goT | apply g_goF); · simp only [go_sem, Nat.reduceEqDiff, Nat.reduceAdd, Nat.reduceLeDiff, h4, List.replicate_succ, List.replicate_zero, List.set_cons_zero]; (first | done | rfl))
    | ((first | apply g_T | apply g_F | apply g_gT | apply g_gF); · intro q1_; (first | intro q2_ | have q2_ := q1_); simp only [go_sem, Nat.reduceEqDiff, Nat.reduceAdd, Nat.reduceLeDiff, h4, List.replicate_succ, List.replicate_zero, List.set_cons_zero, q1_, q2_]; (first | done | rfl))
    | fail
    )
      refine s_gatL (os := [27, 46]) (w := false) (xs := strs (headW r ++ ((nums r).take 4).map itoaS)) (ys := [.sc (.string (textS r.labels))]) (by simp only [go_sem, Nat.reduceEqDiff, Nat.reduceAdd, Nat.reduceLeDiff]; exact hg.new _) (by simp only [go_sem, Nat.reduceEqDiff, Nat.reduceAdd, Nat.reduceLeDiff, srcOf, elemsOf, List.drop_zero, List.replicate_succ, List.replicate_zero, List.set_cons_zero]) rfl (by rw [strs_len]; show (3 + 4 + 1) * 16 ≤ _; omega) ?_
      intro q σ' hg2 _
      rw [strs_snoc] at hg2
      have hfz := gat_fzd hg2 (strs_fzd σ' 9 _)
      (repeat' first
    | refine w_seq ?_ | refine w_rg ?_ | refine wo_nil ?_ | refine g_skU ?_ | refine g_skT ?_ | refine g_skF ?_
    | ((first | apply s_plain | apply s_void | apply s_guard | apply g_goT | apply g_goF); · simp only [go_sem, Nat.reduceEqDiff, Nat.reduceAdd, Nat.reduceLeDiff]; (first | done | rfl))
    | ((first | apply g_T | apply g_F | apply g_gT | apply g_gF); · intro q1_; (first | intro q2_ | have q2_ := q1_); simp only [go_sem, Nat.reduceEqDiff, Nat.reduceAdd, Nat.reduceLeDiff, q1_, q2_]; (first | done | rfl))
    | (apply w_condX; · simp only [go_sem, Nat.reduceEqDiff, Nat.reduceAdd, Nat.reduceLeDiff]; (first | done | rfl)); (first | refine wcd_T ?_ | refine wcd_F ?_)
    | refine w_skip ?_ | refine w_exit ?_ | refine w_ret ?_
    | fail
    )
      refine ⟨.inr rfl, ?_⟩
      simp only [go_sem, Nat.reduceEqDiff, Nat.reduceAdd, Nat.reduceLeDiff, retOf, resOf, hfz]
      rfl
    · refine ⟨?_, ⟨0, ?_, ?_, ?_⟩, ?_⟩
      · simp only [go_sem, Nat.reduceEqDiff, Nat.reduceAdd, Nat.reduceLeDiff]
      · simp only [go_sem, Nat.reduceEqDiff, Nat.reduceAdd, Nat.reduceLeDiff]
      · simp only [go_sem, Nat.reduceEqDiff, Nat.reduceAdd, Nat.reduceLeDiff]; rfl
      · simp only [go_sem, Nat.reduceEqDiff, Nat.reduceAdd, Nat.reduceLeDiff]
      · simp only [go_sem, Nat.reduceEqDiff, Nat.reduceAdd, Nat.reduceLeDiff]; exact .inr ⟨27, _, true, by decide, rfl, by simp only [go_sem, Nat.reduceEqDiff, Nat.reduceAdd, Nat.reduceLeDiff]; rfl, (by simp only [go_sem, Nat.reduceEqDiff, Nat.reduceAdd, Nat.reduceLeDiff]), by simp [strs, headW], fun _ => rfl⟩
    · simp only [go_sem, Nat.reduceEqDiff, Nat.reduceAdd, Nat.reduceLeDiff]
    · simp only [go_sem, Nat.reduceEqDiff, Nat.reduceAdd, Nat.reduceLeDiff]
end

def d184 : Def := (.code 2 [.tmp 4] (.seq (.rg false [⟨.some 2, .none, .box (.t 0)⟩, ⟨.some 3, .none, .box (.t 1)⟩, ⟨.some 4, .none, .mv (.c (.bool false))⟩]) (.seq (.rg true [⟨.some 9, .none, .ld (.some 8) (.t 2)⟩, ⟨.some 10, .none, .call 104 .strict [.t 9]⟩, ⟨.some 11, .none, .ld (.some 8) (.t 3)⟩, ⟨.some 12, .none, .call 104 .strict [.t 11]⟩, ⟨.none, .none, .st 8 (.t 2) (.t 10)⟩, ⟨.none, .none, .st 8 (.t 3) (.t 12)⟩]) (.seq (.rg false [⟨.some 14, .none, .ld (.some 8) (.t 2)⟩, ⟨.some 15, .none, .call 193 .pure [.t 14]⟩, ⟨.some 13, .none, .mv (.t 15)⟩, ⟨.some 16, .none, .ext (.t 13) 0⟩, ⟨.some 17, .none, .ext (.t 13) 1⟩, ⟨.some 5, .none, .mv (.t 16)⟩, ⟨.some 6, .none, .mv (.t 17)⟩]) (.seq (.rg false [⟨.some 19, .none, .ld (.some 8) (.t 3)⟩, ⟨.some 20, .none, .call 193 .pure [.t 19]⟩, ⟨.some 18, .none, .mv (.t 20)⟩, ⟨.some 21, .none, .ext (.t 18) 0⟩, ⟨.some 22, .none, .ext (.t 18) 1⟩, ⟨.some 7, .none, .mv (.t 21)⟩, ⟨.some 8, .none, .mv (.t 22)⟩]) (.seq (.seq (.rg false [⟨.some 23, .none, .mv (.t 6)⟩, ⟨.some 24, .none, .bin .neq (.t 23) (.c (.int .i64 0))⟩, ⟨.some 25, .none, .mv (.t 24)⟩, ⟨.some 26, .some (25, false), .mv (.t 8)⟩, ⟨.some 27, .some (25, false), .bin .neq (.t 26) (.c (.int .i64 0))⟩, ⟨.some 28, .none, .pick (.t 25) (.c (.bool true)) (.t 27)⟩]) (.cond (.t 28) (.seq (.rg false [⟨.some 29, .none, .call 106 .pure []⟩, ⟨.some 4, .none, .mv (.t 29)⟩]) .ret) .skip)) (.seq (.rg true [⟨.some 30, .none, .call 106 .strict []⟩, ⟨.some 31, .none, .mv (.t 30)⟩, ⟨.some 32, .some (31, true), .mv (.t 5)⟩, ⟨.some 33, .some (31, true), .lenL (.t 32)⟩, ⟨.some 34, .some (31, true), .bin .eql (.t 33) (.c (.int .i64 8))⟩, ⟨.some 35, .none, .pick (.t 31) (.t 34) (.c (.bool false))⟩, ⟨.some 36, .none, .mv (.t 35)⟩, ⟨.some 37, .some (36, true), .mv (.t 5)⟩, ⟨.some 38, .some (36, true), .mv (.t 7)⟩, ⟨.some 39, .some (36, true), .call 36 .strict [.t 37, .t 38]⟩, ⟨.some 40, .some (36, true), .ld (.some 8) (.t 2)⟩, ⟨.some 41, .some (36, true), .ld (.some 8) (.t 3)⟩, ⟨.some 42, .some (36, true), .call 188 .strict [.t 40, .t 41]⟩, ⟨.some 43, .some (36, true), .beq false (.t 39) (.t 42)⟩, ⟨.some 44, .none, .pick (.t 36) (.t 43) (.c (.bool false))⟩, ⟨.some 4, .none, .mv (.t 44)⟩]) .ret)))))))
def lhf : List (Nat × Def) := [(184, d184)]
section
variable {env : Nat → Option Def} {fr : Fr} {σ σ' σ'' : St} {K : Fr → St → Prop} {Q : X → Fr → St → Prop} {p : PV} {bs : List UInt8}
theorem ba_inj {a b : ByteArray} (h : a.toList = b.toList) : a = b := by
  rw [ByteArray.toList_eq, ByteArray.toList_eq] at h
  exact ByteArray.ext (Array.toList_inj.1 h)
theorem ba_beq (a b : ByteArray) : (a.toList == b.toList) = decide (a = b) := by
  rw [Bool.eq_iff_iff, beq_iff_eq, decide_eq_true_iff]
  exact ⟨ba_inj, fun h => by rw [h]⟩
theorem a36 (D : Has lhd env) {a b : List ByteArray} (hn : a.length ≤ 9223372036854775807) : AV env 36 [.sl (strs a), .sl (strs b)] = some (.sc (.bool (decide (a = b)))) := by
  refine AV_wp (D (36, d36) (by simp [lhd])) rfl ?_
  have hla := strs_len a
  have hlb := strs_len b
  (repeat' first
    | refine w_seq ?_ | refine w_rg ?_ | refine wo_nil ?_ | refine g_skU ?_ | refine g_skT ?_ | refine g_skF ?_
    | ((first | apply s_plain | apply s_void | apply s_guard | apply g_goT | apply g_goF); · simp only [go_sem, Nat.reduceEqDiff, Nat.reduceAdd, Nat.reduceLeDiff, hla, hlb]; (first | done | rfl))
    | ((first | apply g_T | apply g_F | apply g_gT | apply g_gF); · intro q1_; (first | intro q2_ | have q2_ := q1_); simp only [go_sem, Nat.reduceEqDiff, Nat.reduceAdd, Nat.reduceLeDiff, hla, hlb, q1_, q2_]; (first | done | rfl))
    | fail
    )
  by_cases hl : a.length = b.length
  · have hc : ((a.length : Int) != (b.length : Int)) = false := by rw [hl]; simp
    (repeat' first
    | refine w_seq ?_ | refine w_rg ?_ | refine wo_nil ?_ | refine g_skU ?_ | refine g_skT ?_ | refine g_skF ?_
    | ((first | apply s_plain | apply s_void | apply s_guard | apply g_goT | apply g_goF); · simp only [go_sem, Nat.reduceEqDiff, Nat.reduceAdd, Nat.reduceLeDiff, hc]; (first | done | rfl))
    | ((first | apply g_T | apply g_F | apply g_gT | apply g_gF); · intro q1_; (first | intro q2_ | have q2_ := q1_); simp only [go_sem, Nat.reduceEqDiff, Nat.reduceAdd, Nat.reduceLeDiff, hc, q1_, q2_]; (first | done | rfl))
    | (apply w_condX; · simp only [go_sem, Nat.reduceEqDiff, Nat.reduceAdd, Nat.reduceLeDiff, hc]; (first | done | rfl)); (first | refine wcd_T ?_ | refine wcd_F ?_)
    | refine w_skip ?_ | refine w_exit ?_ | refine w_ret ?_
    | fail
    )
    (repeat' first
    | refine w_seq ?_ | refine w_rg ?_ | refine wo_nil ?_ | refine g_skU ?_ | refine g_skT ?_ | refine g_skF ?_
    | ((first | apply s_plain | apply s_void | apply s_guard | apply g_goT | apply g_goF); · simp only [go_sem, Nat.reduceEqDiff, Nat.reduceAdd, Nat.reduceLeDiff, hla]; (first | done | rfl))
    | ((first | apply g_T | apply g_F | apply g_gT | apply g_gF); · intro q1_; (first | intro q2_ | have q2_ := q1_); simp only [go_sem, Nat.reduceEqDiff, Nat.reduceAdd, Nat.reduceLeDiff, hla, q1_, q2_]; (first | done | rfl))
    | fail
    )
    refine w_block (w_rangeF a.length hn (fun i fr σ => ∀ j, j < i → a[j]? = b[j]?) ⟨by decide, rfl, rfl⟩ (fun _ _ _ _ h => ⟨h, h, h⟩) (fun j hj => by omega) (by simp only [go_sem, Nat.reduceEqDiff, Nat.reduceAdd, Nat.reduceLeDiff]; first | done | rfl) (by simp only [go_sem, Nat.reduceEqDiff, Nat.reduceAdd, Nat.reduceLeDiff, hla]; first | done | rfl) ?_ ?_)
    · rintro i fr1 σ1 hi h3 hti hfr
      have f0_0 := hfr 0 rfl; have f0_1 := hfr 1 rfl; have f0_12 := hfr 12 rfl; try (simp only [go_sem, Nat.reduceEqDiff, Nat.reduceAdd, Nat.reduceLeDiff] at f0_0); try (simp only [go_sem, Nat.reduceEqDiff, Nat.reduceAdd, Nat.reduceLeDiff] at f0_1); try (simp only [go_sem, Nat.reduceEqDiff, Nat.reduceAdd, Nat.reduceLeDiff] at f0_12)
      have hi2 : i < b.length := by omega
      have qa := List.getElem?_eq_getElem hi
      have qb := List.getElem?_eq_getElem hi2
      have hx := strs_at qa
      have hy := strs_at qb
      have e1 : (0 : Int) ≤ (i : Int) ∧ (i : Int) < (a.length : Int) := by omega
      have e2 : (0 : Int) ≤ (i : Int) ∧ (i : Int) < (b.length : Int) := by omega
      refine w_block ?_
      (repeat' first
    | refine w_seq ?_ | refine w_rg ?_ | refine wo_nil ?_ | refine g_skU ?_ | refine g_skT ?_ | refine g_skF ?_
    | ((first | apply s_plain | apply s_void | apply s_guard | apply g_goT | apply g_goF); · simp only [go_sem, Nat.reduceEqDiff, Nat.reduceAdd, Nat.reduceLeDiff, f0_0, f0_1, f0_12, hti, e1, e2, hla, hlb, Int.toNat_natCast, hx, hy, ba_beq]; (first | done | rfl))
    | ((first | apply g_T | apply g_F | apply g_gT | apply g_gF); · intro q1_; (first | intro q2_ | have q2_ := q1_); simp only [go_sem, Nat.reduceEqDiff, Nat.reduceAdd, Nat.reduceLeDiff, f0_0, f0_1, f0_12, hti, e1, e2, hla, hlb, Int.toNat_natCast, hx, hy, ba_beq, q1_, q2_]; (first | done | rfl))
    | fail
    )
      by_cases he : a[i] = b[i]
      · have hb : (!(decide (a[i] = b[i]))) = false := by simp [he]
        (repeat' first
    | refine w_seq ?_ | refine w_rg ?_ | refine wo_nil ?_ | refine g_skU ?_ | refine g_skT ?_ | refine g_skF ?_
    | ((first | apply s_plain | apply s_void | apply s_guard | apply g_goT | apply g_goF); · simp only [go_sem, Nat.reduceEqDiff, Nat.reduceAdd, Nat.reduceLeDiff, hb]; (first | done | rfl))
    | ((first | apply g_T | apply g_F | apply g_gT | apply g_gF); · intro q1_; (first | intro q2_ | have q2_ := q1_); simp only [go_sem, Nat.reduceEqDiff, Nat.reduceAdd, Nat.reduceLeDiff, hb, q1_, q2_]; (first | done | rfl))
    | (apply w_condX; · simp only [go_sem, Nat.reduceEqDiff, Nat.reduceAdd, Nat.reduceLeDiff, hb]; (first | done | rfl)); (first | refine wcd_T ?_ | refine wcd_F ?_)
    | refine w_skip ?_ | refine w_exit ?_ | refine w_ret ?_
    | fail
    )
        intro j hj
        by_cases hji : j = i
        · rw [hji, qa, qb, he]
        · exact h3 j (by omega)
      · have hb : (!(decide (a[i] = b[i]))) = true := by simp [he]
        have hne : a ≠ b := fun h => he (by subst h; rfl)
        (repeat' first
    | refine w_seq ?_ | refine w_rg ?_ | refine wo_nil ?_ | refine g_skU ?_ | refine g_skT ?_ | refine g_skF ?_
    | ((first | apply s_plain | apply s_void | apply s_guard | apply g_goT | apply g_goF); · simp only [go_sem, Nat.reduceEqDiff, Nat.reduceAdd, Nat.reduceLeDiff, hb]; (first | done | rfl))
    | ((first | apply g_T | apply g_F | apply g_gT | apply g_gF); · intro q1_; (first | intro q2_ | have q2_ := q1_); simp only [go_sem, Nat.reduceEqDiff, Nat.reduceAdd, Nat.reduceLeDiff, hb, q1_, q2_]; (first | done | rfl))
    | (apply w_condX; · simp only [go_sem, Nat.reduceEqDiff, Nat.reduceAdd, Nat.reduceLeDiff, hb]; (first | done | rfl)); (first | refine wcd_T ?_ | refine wcd_F ?_)
    | refine w_skip ?_ | refine w_exit ?_ | refine w_ret ?_
    | fail
    )
        exact ⟨by first | exact .inr rfl | exact .inr trivial | exact .inl rfl, by simp only [go_sem, Nat.reduceEqDiff, Nat.reduceAdd, Nat.reduceLeDiff, retOf, resOf, decide_eq_false hne]; first | done | rfl⟩
    · rintro fr1 σ1 h3 hfr
      try simp only [if_true]
      have heq : a = b := List.ext_getElem? fun i => by
        by_cases hi : i < a.length
        · exact h3 i hi
        · rw [List.getElem?_eq_none (by omega), List.getElem?_eq_none (by omega)]
      (repeat' first
    | refine w_seq ?_ | refine w_rg ?_ | refine wo_nil ?_ | refine g_skU ?_ | refine g_skT ?_ | refine g_skF ?_
    | ((first | apply s_plain | apply s_void | apply s_guard | apply g_goT | apply g_goF); · simp only [go_sem, Nat.reduceEqDiff, Nat.reduceAdd, Nat.reduceLeDiff]; (first | done | rfl))
    | ((first | apply g_T | apply g_F | apply g_gT | apply g_gF); · intro q1_; (first | intro q2_ | have q2_ := q1_); simp only [go_sem, Nat.reduceEqDiff, Nat.reduceAdd, Nat.reduceLeDiff, q1_, q2_]; (first | done | rfl))
    | (apply w_condX; · simp only [go_sem, Nat.reduceEqDiff, Nat.reduceAdd, Nat.reduceLeDiff]; (first | done | rfl)); (first | refine wcd_T ?_ | refine wcd_F ?_)
    | refine w_skip ?_ | refine w_exit ?_ | refine w_ret ?_
    | fail
    )
      exact ⟨by first | exact .inr rfl | exact .inr trivial | exact .inl rfl, by simp only [go_sem, Nat.reduceEqDiff, Nat.reduceAdd, Nat.reduceLeDiff, retOf, resOf, decide_eq_true heq]; first | done | rfl⟩
  · have hc : ((a.length : Int) != (b.length : Int)) = true := by simp; omega
    have hne : a ≠ b := fun h => hl (by rw [h])
    (repeat' first
    | refine w_seq ?_ | refine w_rg ?_ | refine wo_nil ?_ | refine g_skU ?_ | refine g_skT ?_ | refine g_skF ?_
    | ((first | apply s_plain | apply s_void | apply s_guard | apply g_goT | apply g_goF); · simp only [go_sem, Nat.reduceEqDiff, Nat.reduceAdd, Nat.reduceLeDiff, hc]; (first | done | rfl))
    | ((first | apply g_T | apply g_F | apply g_gT | apply g_gF); · intro q1_; (first | intro q2_ | have q2_ := q1_); simp only [go_sem, Nat.reduceEqDiff, Nat.reduceAdd, Nat.reduceLeDiff, hc, q1_, q2_]; (first | done | rfl))
    | (apply w_condX; · simp only [go_sem, Nat.reduceEqDiff, Nat.reduceAdd, Nat.reduceLeDiff, hc]; (first | done | rfl)); (first | refine wcd_T ?_ | refine wcd_F ?_)
    | refine w_skip ?_ | refine w_exit ?_ | refine w_ret ?_
    | fail
    )
    exact ⟨by first | exact .inr rfl | exact .inr trivial | exact .inl rfl, by simp only [go_sem, Nat.reduceEqDiff, Nat.reduceAdd, Nat.reduceLeDiff, retOf, resOf, decide_eq_false hne]; first | done | rfl⟩
theorem likeR_iff {a b : Rule} : likeR a b = true ↔ a = b := by
  constructor
  · intro h
    unfold likeR sameL at h
    simp only [Bool.and_eq_true, decide_eq_true_eq, beq_iff_eq] at h
    obtain ⟨⟨⟨⟨⟨⟨⟨h1, h2⟩, h3⟩, h4⟩, h5⟩, h6⟩, h7⟩, h8⟩ := h
    have h2 := ba_inj h2
    have h3 := ba_inj h3
    cases a; cases b
    simp_all
  · rintro rfl
    exact likeR_refl a
theorem like_words {a b : Rule} (ha : rightR a = true) (hb : rightR b = true) : decide (wordsR a = wordsR b) = likeR a b := by
  rw [Bool.eq_iff_iff, decide_eq_true_iff, likeR_iff]
  exact ⟨words_inj ha hb, fun h => by rw [h]⟩
theorem a184 (H : Has la env) (G : Has lc env) (F : Has lf env) (I : Has lg env) (J : Has li env) (P : Has lp env) (U : Has lu env) (A : Has lha env) (W : Has lhb env) (N : Has ln env) (D : Has lhd env) (T : Has lhf env)
    (hal : AV env 106 [] = some (.sc (.bool true))) {x y : Rule} (hx : x.labels.length ≤ 9223372036854775807) (hy : y.labels.length ≤ 9223372036854775807) : AV env 184 [rule x, rule y] = some (.sc (.bool true)) := by
  have h1 := a104 J hx
  have h2 := a104 J hy
  have f1 := cutR_fits x
  have f2 := cutR_fits y
  generalize cutR x = a at h1 f1
  generalize cutR y = b at h2 f2
  have w1 := a193 H G F I P U A W f1
  have w2 := a193 H G F I P U A W f2
  have hlk := a188 N (a := a) (b := b) f1.l
  have h36 := a36 D (a := wordsR a) (b := wordsR b) (by simp [wordsR])
  refine AV_wp (T (184, d184) (by simp [lhf])) rfl ?_
  unfold rule at h1 h2 w1 w2 hlk ⊢
  (repeat' first
    | refine w_seq ?_ | refine w_rg ?_ | refine wo_nil ?_ | refine g_skU ?_ | refine g_skT ?_ | refine g_skF ?_
    | ((first | apply s_plain | apply s_void | apply s_guard | apply g_goT | apply g_goF); · simp only [go_sem, Nat.reduceEqDiff, Nat.reduceAdd, Nat.reduceLeDiff, h1, h2]; (first | done | rfl))
    | ((first | apply g_T | apply g_F | apply g_gT | apply g_gF); · intro q1_; (first | intro q2_ | have q2_ := q1_); simp only [go_sem, Nat.reduceEqDiff, Nat.reduceAdd, Nat.reduceLeDiff, h1, h2, q1_, q2_]; (first | done | rfl))
    | fail
    )
  cases ha : rightR a with
  | false =>
    rw [ha] at w1
    simp only [if_false, Bool.false_eq_true] at w1
    (repeat' first
    | refine w_seq ?_ | refine w_rg ?_ | refine wo_nil ?_ | refine g_skU ?_ | refine g_skT ?_ | refine g_skF ?_
    | ((first | apply s_plain | apply s_void | apply s_guard | apply g_goT | apply g_goF); · simp only [go_sem, Nat.reduceEqDiff, Nat.reduceAdd, Nat.reduceLeDiff, w1, w2]; (first | done | rfl))
    | ((first | apply g_T | apply g_F | apply g_gT | apply g_gF); · intro q1_; (first | intro q2_ | have q2_ := q1_); simp only [go_sem, Nat.reduceEqDiff, Nat.reduceAdd, Nat.reduceLeDiff, w1, w2, q1_, q2_]; (first | done | rfl))
    | fail
    )
    (repeat' first
    | refine w_seq ?_ | refine w_rg ?_ | refine wo_nil ?_ | refine g_skU ?_ | refine g_skT ?_ | refine g_skF ?_
    | ((first | apply s_plain | apply s_void | apply s_guard | apply g_goT | apply g_goF); · simp only [go_sem, Nat.reduceEqDiff, Nat.reduceAdd, Nat.reduceLeDiff, hal]; (first | done | rfl))
    | ((first | apply g_T | apply g_F | apply g_gT | apply g_gF); · intro q1_; (first | intro q2_ | have q2_ := q1_); simp only [go_sem, Nat.reduceEqDiff, Nat.reduceAdd, Nat.reduceLeDiff, hal, q1_, q2_]; (first | done | rfl))
    | (apply w_condX; · simp only [go_sem, Nat.reduceEqDiff, Nat.reduceAdd, Nat.reduceLeDiff, hal]; (first | done | rfl)); (first | refine wcd_T ?_ | refine wcd_F ?_)
    | refine w_skip ?_ | refine w_exit ?_ | refine w_ret ?_
    | fail
    )
    exact ⟨by first | exact .inr rfl | exact .inr trivial | exact .inl rfl, by simp only [go_sem, Nat.reduceEqDiff, Nat.reduceAdd, Nat.reduceLeDiff, retOf, resOf]; first | done | rfl⟩
  | true =>
    rw [ha] at w1
    simp only [if_true] at w1
    (repeat' first
    | refine w_seq ?_ | refine w_rg ?_ | refine wo_nil ?_ | refine g_skU ?_ | refine g_skT ?_ | refine g_skF ?_
    | ((first | apply s_plain | apply s_void | apply s_guard | apply g_goT | apply g_goF); · simp only [go_sem, Nat.reduceEqDiff, Nat.reduceAdd, Nat.reduceLeDiff, w1]; (first | done | rfl))
    | ((first | apply g_T | apply g_F | apply g_gT | apply g_gF); · intro q1_; (first | intro q2_ | have q2_ := q1_); simp only [go_sem, Nat.reduceEqDiff, Nat.reduceAdd, Nat.reduceLeDiff, w1, q1_, q2_]; (first | done | rfl))
    | fail
    )
    cases hb : rightR b with
    | false =>
      rw [hb] at w2
      simp only [if_false, Bool.false_eq_true] at w2
      (repeat' first
    | refine w_seq ?_ | refine w_rg ?_ | refine wo_nil ?_ | refine g_skU ?_ | refine g_skT ?_ | refine g_skF ?_
    | ((first | apply s_plain | apply s_void | apply s_guard | apply g_goT | apply g_goF); · simp only [go_sem, Nat.reduceEqDiff, Nat.reduceAdd, Nat.reduceLeDiff, w2]; (first | done | rfl))
    | ((first | apply g_T | apply g_F | apply g_gT | apply g_gF); · intro q1_; (first | intro q2_ | have q2_ := q1_); simp only [go_sem, Nat.reduceEqDiff, Nat.reduceAdd, Nat.reduceLeDiff, w2, q1_, q2_]; (first | done | rfl))
    | fail
    )
      (repeat' first
    | refine w_seq ?_ | refine w_rg ?_ | refine wo_nil ?_ | refine g_skU ?_ | refine g_skT ?_ | refine g_skF ?_
    | ((first | apply s_plain | apply s_void | apply s_guard | apply g_goT | apply g_goF); · simp only [go_sem, Nat.reduceEqDiff, Nat.reduceAdd, Nat.reduceLeDiff, hal]; (first | done | rfl))
    | ((first | apply g_T | apply g_F | apply g_gT | apply g_gF); · intro q1_; (first | intro q2_ | have q2_ := q1_); simp only [go_sem, Nat.reduceEqDiff, Nat.reduceAdd, Nat.reduceLeDiff, hal, q1_, q2_]; (first | done | rfl))
    | (apply w_condX; · simp only [go_sem, Nat.reduceEqDiff, Nat.reduceAdd, Nat.reduceLeDiff, hal]; (first | done | rfl)); (first | refine wcd_T ?_ | refine wcd_F ?_)
    | refine w_skip ?_ | refine w_exit ?_ | refine w_ret ?_
    | fail
    )
      exact ⟨by first | exact .inr rfl | exact .inr trivial | exact .inl rfl, by simp only [go_sem, Nat.reduceEqDiff, Nat.reduceAdd, Nat.reduceLeDiff, retOf, resOf]; first | done | rfl⟩
    | true =>
      rw [hb] at w2
      simp only [if_true] at w2
      have hl : (strs (wordsR a)).length = 8 := rfl
      have e := like_words ha hb
      rw [e] at h36
      (repeat' first
    | refine w_seq ?_ | refine w_rg ?_ | refine wo_nil ?_ | refine g_skU ?_ | refine g_skT ?_ | refine g_skF ?_
    | ((first | apply s_plain | apply s_void | apply s_guard | apply g_goT | apply g_goF); · simp only [go_sem, Nat.reduceEqDiff, Nat.reduceAdd, Nat.reduceLeDiff, w2]; (first | done | rfl))
    | ((first | apply g_T | apply g_F | apply g_gT | apply g_gF); · intro q1_; (first | intro q2_ | have q2_ := q1_); simp only [go_sem, Nat.reduceEqDiff, Nat.reduceAdd, Nat.reduceLeDiff, w2, q1_, q2_]; (first | done | rfl))
    | fail
    )
      (repeat' first
    | refine w_seq ?_ | refine w_rg ?_ | refine wo_nil ?_ | refine g_skU ?_ | refine g_skT ?_ | refine g_skF ?_
    | ((first | apply s_plain | apply s_void | apply s_guard | apply g_goT | apply g_goF); · simp only [go_sem, Nat.reduceEqDiff, Nat.reduceAdd, Nat.reduceLeDiff, hal, h36, hlk, hl, beq_self_eq_true]; (first | done | rfl))
    | ((first | apply g_T | apply g_F | apply g_gT | apply g_gF); · intro q1_; (first | intro q2_ | have q2_ := q1_); simp only [go_sem, Nat.reduceEqDiff, Nat.reduceAdd, Nat.reduceLeDiff, hal, h36, hlk, hl, beq_self_eq_true, q1_, q2_]; (first | done | rfl))
    | (apply w_condX; · simp only [go_sem, Nat.reduceEqDiff, Nat.reduceAdd, Nat.reduceLeDiff, hal, h36, hlk, hl, beq_self_eq_true]; (first | done | rfl)); (first | refine wcd_T ?_ | refine wcd_F ?_)
    | refine w_skip ?_ | refine w_exit ?_ | refine w_ret ?_
    | fail
    )
      exact ⟨by first | exact .inr rfl | exact .inr trivial | exact .inl rfl, by simp only [go_sem, Nat.reduceEqDiff, Nat.reduceAdd, Nat.reduceLeDiff, retOf, resOf, beq_self_eq_true]; first | done | rfl⟩
end

section
variable {P : Program}
def fieldsOf (P : Program) (t : TypeId) : List (Nat × TypeId) := match P.underlying t with
  | some (.struct fs) => fs.toList.map fun f => (f.offset, f.type)
  | _ => []
theorem Is.fields {t : TypeId} {ps : List PV} (h : Is P t ps) (ha : isAgg P t = true) : ps.length = P.cellsOf t ∧ ∀ q ∈ fieldsOf P t, Is P q.2 ((ps.drop q.1).take (P.cellsOf q.2)) := by
  unfold isAgg at ha
  split at ha
  · rename_i fs hu
    obtain ⟨h1, h2⟩ := h.st' hu
    refine ⟨h1, fun q hq => ?_⟩
    simp only [fieldsOf, hu, List.mem_map] at hq
    obtain ⟨f, hf, rfl⟩ := hq
    obtain ⟨i, hi⟩ := List.getElem?_of_mem hf
    exact h2 i f (by simpa using hi)
  · cases ha
theorem str_of {t : TypeId} {p : PV} (h : Is P t [p]) (hk : (match P.underlying t with | some .string => true | _ => false) = true) : ∃ s : ByteArray, p = .sc (.string s) ∧ s.size ≤ reachBytes := by
  split at hk
  · rename_i hu
    obtain ⟨s, hs, h2⟩ := h.str' hu
    simp only [List.cons.injEq, and_true] at hs
    exact ⟨s, hs, h2⟩
  · cases hk
theorem returns_and_shapedZ {H : Type} {enc : TypeId × Value → H} {a : Assume} {C : Checked} {os : Os} {f : FuncId} {fn : Func} {s : ChangeSpec} {conds : List PathCond} {apart fresh handsOn again : Bool} {Z : World → Array Value → Prop}
    (hZ : ∀ (w w' : World) (args : Array Value), w.heap = w'.heap → Z w args → Z w' args)
    (own : ownKnob C.prog.godebug = none) (started : os.Started) (noInit : C.prog.inits.idxOf? f = none) (hfn : C.prog.funcs[f]? = some fn)
    (witness : ∃ (w : World) (tape : Tape) (i : Input), w.os = os ∧ (w.forCall tape i).Shaped C.prog ∧ i.vars = [] ∧ Input.okWide C.prog (w.forCall tape i) .any w.heap.size f i ∧
      ((s.pre enc C.prog fn conds apart (w.forCall tape i).memory i.args ∧ Z (w.forCall tape i).memory i.args) ∧ sizedMet enc C.prog fn (OpenSpec.ofChange s) apart (w.forCall tape i).memory i.args) ∧ a.holds C.prog (lone (Frame.enter C.prog f i.args .normal) [] (w.forCall tape i)))
    (contract : ∀ (W : World) (base : Nat) (args : Array Value) (ds gs : List (DataW H)) (before : List MemPlace),
      (∀ (j : Nat) t v, fn.params[j]? = some t → args[j]? = some v → Value.okWide C.prog W .any base t v) →
      DataW.Whole enc C.prog fn.params.toList s.vars apart W args.toList ds gs before →
      conds.all (PathCond.test C.prog ⟨fn.params.toList, ds, s.plain.varTypes C.prog, gs⟩) = true →
      (DataW.weightsEach C.prog (fn.params.toList ++ s.plain.varTypes C.prog) (ds ++ gs)).all (· ≤ reachBytes) = true → W.ShapedOpen C.prog → Z W args →
      Calls C.prog f args W fun e W' => ∃ v, e = .returned v ∧ s.post enc C.prog fn apart fresh handsOn again W args v W') :
    ReturnsInHanded a C os f .any (fun w args => (s.pre enc C.prog fn conds apart w args ∧ Z w args) ∧ sizedMet enc C.prog fn (OpenSpec.ofChange s) apart w args) (s.post enc C.prog fn apart fresh handsOn again) := by
  refine returnsInHanded_of_calls own started noInit witness ?_
  intro w tape i _ hsh _ hok hpre _
  obtain ⟨_, _, _, fn', hfn', _, _, _, _, hval⟩ := hok
  have e : fn' = fn := Option.some.inj (hfn'.symm.trans hfn)
  subst e
  obtain ⟨⟨⟨ds, gs, before, hw, hc⟩, hzz⟩, hz⟩ := hpre
  have hw' := DataW.Whole.of_heap (w' := w.forCall tape i) (by rfl) hw
  refine (contract (w.forCall tape i) w.heap.size i.args ds gs before hval hw' hc (hz.weights hw) hsh (hZ (w.forCall tape i).memory (w.forCall tape i) i.args rfl hzz)).mono fun e W' ⟨v, he, hp⟩ => ?_
  subst he
  exact ChangeSpec.post_blind hp
end

end Go.Proofs.YtckcgppnppiccaaGreatDoorPv
