/-
Own texts of the proof, merged: part 2.
-/
import Derived.Test.YtemoboghbdcjkaaDoorPkStoreRecordsA
import Derived.Test.YtemoboghbdcjkaaDoorPvL
import Derived.HandedShaped
namespace Go.Proofs.YtemoboghbdcjkaaDoorPv
open Go
set_option linter.unusedSimpArgs false
set_option linter.unusedVariables false
set_option maxHeartbeats 4000000
set_option maxRecDepth 8000
attribute [local go_sem ↓] e_mv e_pick e_bin e_eqs e_beq e_un e_cvi e_str e_s2b e_b2s e_box e_build e_bsl e_ld e_st e_nck e_mkf e_slcS e_slcL e_fa e_fld e_ia e_iaa e_ix e_ixa e_ext e_lenS e_lenL e_mnmx e_app e_appb e_bbx e_msl e_clr e_call e_callv e_icall e_slcA e_mkm e_mput e_mget e_mlen e_mdel pa_t pa_c pa_f slcSP_str hiOf_some hiOf_none loOf_some loOf_none set_eq set_ne
attribute [local go_sem] pv pv1 simple frOf_0 frOf_1 frOf_2 frOf_3 frOf_4 frOf_5 ne_eq not_false_eq_true if_true Bool.false_eq_true if_false pbin punary Option.map_some Option.bind_some pick_and pick_or opt_true Bool.true_and Bool.and_self Bool.and_true Bool.true_or Bool.false_or Bool.not_true Bool.not_false callE pcall_eq List.map_cons List.map_nil List.append_nil List.nil_append List.cons_append mapM_cons' mapM_nil' dep_eq fz_sc fz_sl fz_em fz_fn fz_fp fz_agg fz_tu fz_bx fz_ob Nat.lt_irrefl Nat.zero_lt_one Nat.lt_add_one flat clL cl Bool.or_true okc_sc okc_em okc_sl okc_ob okc_bx okc_fp okc_fn okc_agg okc_ifc cells_agg cells_sc cells_sl cells_em cells_ob cells_fn cells_bx cells_fp List.length_cons List.length_nil Nat.zero_add and_self true_and and_true new_m new_c put_m put_c nil_m nil_c nil_mm new_mm put_mm newM_m newM_c newM_mm putM_m putM_c putM_mm mkeyV_1 mkeyV_2 mapAt_eq deref List.getElem?_cons_zero List.getElem?_cons_succ List.drop_zero List.drop_succ_cons List.take_succ_cons List.take_zero Nat.le_refl false_and and_false decide_true decide_false lenP_em lenP_nil lenP_sl lenP_ob Int.ofNat_zero splice fillP fillE List.modify_zero_cons List.replicate_succ List.replicate_zero List.set_cons_zero List.drop_zero ba_data ba_size ba_toList ba_extract ba_append List.toList_toArray
def d264 : Def := (.code 1 [.tmp 2] (.seq (.rg false [⟨.some 2, .none, .mv (.c (.string ⟨#[]⟩))⟩]) (.seq (.rg false [⟨.some 3, .none, .mv (.t 0)⟩, ⟨.some 4, .none, .lenS (.t 3)⟩, ⟨.some 5, .none, .call 273 .pure [.t 4]⟩, ⟨.some 6, .none, .mv (.t 0)⟩, ⟨.some 7, .none, .bin .add (.t 5) (.t 6)⟩, ⟨.some 8, .none, .mv (.t 0)⟩, ⟨.some 9, .none, .call 274 .pure [.t 8]⟩, ⟨.some 10, .none, .bin .add (.t 7) (.t 9)⟩, ⟨.some 2, .none, .mv (.t 10)⟩]) .ret)))
def d261 : Def := (.code 1 [.tmp 2, .tmp 3] (.seq (.rg false [⟨.some 2, .none, .mv (.c (.string ⟨#[]⟩))⟩, ⟨.some 3, .none, .mv (.c (.int .i64 0))⟩]) (.seq (.seq (.rg false [⟨.some 6, .none, .mv (.t 0)⟩, ⟨.some 7, .none, .lenS (.t 6)⟩, ⟨.some 8, .none, .bin .gtr (.t 7) (.c (.int .i64 4096))⟩]) (.cond (.t 8) (.seq (.rg false [⟨.some 2, .none, .mv (.c (.string ⟨#[]⟩))⟩, ⟨.some 3, .none, .mv (.c (.int .i64 2))⟩]) .ret) .skip)) (.seq (.rg false [⟨.some 10, .none, .mv (.t 0)⟩, ⟨.some 11, .none, .lenS (.t 10)⟩, ⟨.some 12, .none, .call 269 .pure [.t 11]⟩, ⟨.some 9, .none, .mv (.t 12)⟩, ⟨.some 13, .none, .ext (.t 9) 0⟩, ⟨.some 14, .none, .ext (.t 9) 1⟩, ⟨.some 4, .none, .mv (.t 13)⟩, ⟨.some 5, .none, .mv (.t 14)⟩]) (.seq (.rg false [⟨.some 15, .none, .mv (.t 4)⟩, ⟨.some 16, .none, .mv (.t 0)⟩, ⟨.some 17, .none, .bin .add (.t 15) (.t 16)⟩, ⟨.some 18, .none, .mv (.t 0)⟩, ⟨.some 19, .none, .call 270 .pure [.t 18]⟩, ⟨.some 20, .none, .bin .add (.t 17) (.t 19)⟩, ⟨.some 2, .none, .mv (.t 20)⟩, ⟨.some 3, .none, .mv (.c (.int .i64 0))⟩]) .ret)))))
def d262 : Def := (.code 1 [.tmp 2, .tmp 3] (.seq (.rg false [⟨.some 2, .none, .mv (.c (.slice .none 0 0))⟩, ⟨.some 3, .none, .mv (.c (.int .i64 0))⟩]) (.seq (.rg false [⟨.some 4, .none, .mv (.c (.slice .none 0 0))⟩]) (.seq (.rg false [⟨.some 5, .none, .mv (.c (.int .i64 0))⟩]) (.seq (.block 0 (.loop (.seq (.seq (.rg false [⟨.some 10, .none, .mv (.t 5)⟩, ⟨.some 11, .none, .mv (.t 0)⟩, ⟨.some 12, .none, .lenS (.t 11)⟩, ⟨.some 13, .none, .bin .lss (.t 10) (.t 12)⟩]) (.cond (.t 13) .skip (.exit 0))) (.block 1 (.seq (.rg false [⟨.some 15, .none, .mv (.t 0)⟩, ⟨.some 16, .none, .mv (.t 5)⟩, ⟨.some 17, .none, .slcS (.t 15) (.some (.t 16)) .none⟩, ⟨.some 18, .none, .call 271 .pure [.t 17]⟩, ⟨.some 14, .none, .mv (.t 18)⟩, ⟨.some 19, .none, .ext (.t 14) 0⟩, ⟨.some 20, .none, .ext (.t 14) 1⟩, ⟨.some 21, .none, .ext (.t 14) 2⟩, ⟨.some 6, .none, .mv (.t 19)⟩, ⟨.some 7, .none, .mv (.t 20)⟩, ⟨.some 8, .none, .mv (.t 21)⟩]) (.seq (.seq (.rg false [⟨.some 22, .none, .mv (.t 8)⟩, ⟨.some 23, .none, .bin .neq (.t 22) (.c (.int .i64 0))⟩, ⟨.some 24, .none, .mv (.t 23)⟩, ⟨.some 25, .some (24, false), .mv (.t 6)⟩, ⟨.some 26, .some (24, false), .bin .gtr (.t 25) (.c (.int .i64 4096))⟩, ⟨.some 27, .none, .pick (.t 24) (.c (.bool true)) (.t 26)⟩, ⟨.some 28, .none, .mv (.t 27)⟩, ⟨.some 29, .some (28, false), .mv (.t 6)⟩, ⟨.some 30, .some (28, false), .bin .add (.t 29) (.c (.int .i64 4))⟩, ⟨.some 31, .some (28, false), .mv (.t 0)⟩, ⟨.some 32, .some (28, false), .lenS (.t 31)⟩, ⟨.some 33, .some (28, false), .mv (.t 5)⟩, ⟨.some 34, .some (28, false), .bin .sub (.t 32) (.t 33)⟩, ⟨.some 35, .some (28, false), .mv (.t 7)⟩, ⟨.some 36, .some (28, false), .bin .sub (.t 34) (.t 35)⟩, ⟨.some 37, .some (28, false), .bin .gtr (.t 30) (.t 36)⟩, ⟨.some 38, .none, .pick (.t 28) (.c (.bool true)) (.t 37)⟩]) (.cond (.t 38) (.exit 0) .skip)) (.seq (.rg false [⟨.some 39, .none, .mv (.t 0)⟩, ⟨.some 40, .none, .mv (.t 5)⟩, ⟨.some 41, .none, .mv (.t 7)⟩, ⟨.some 42, .none, .bin .add (.t 40) (.t 41)⟩, ⟨.some 43, .none, .mv (.t 5)⟩, ⟨.some 44, .none, .mv (.t 7)⟩, ⟨.some 45, .none, .bin .add (.t 43) (.t 44)⟩, ⟨.some 46, .none, .mv (.t 6)⟩, ⟨.some 47, .none, .bin .add (.t 45) (.t 46)⟩, ⟨.some 48, .none, .slcS (.t 39) (.some (.t 42)) (.some (.t 47))⟩, ⟨.some 9, .none, .mv (.t 48)⟩]) (.seq (.seq (.rg true [⟨.some 49, .none, .mv (.t 0)⟩, ⟨.some 50, .none, .mv (.t 5)⟩, ⟨.some 51, .none, .mv (.t 7)⟩, ⟨.some 52, .none, .bin .add (.t 50) (.t 51)⟩, ⟨.some 53, .none, .mv (.t 6)⟩, ⟨.some 54, .none, .bin .add (.t 52) (.t 53)⟩, ⟨.some 55, .none, .mv (.t 5)⟩, ⟨.some 56, .none, .mv (.t 7)⟩, ⟨.some 57, .none, .bin .add (.t 55) (.t 56)⟩, ⟨.some 58, .none, .mv (.t 6)⟩, ⟨.some 59, .none, .bin .add (.t 57) (.t 58)⟩, ⟨.some 60, .none, .bin .add (.t 59) (.c (.int .i64 4))⟩, ⟨.some 61, .none, .slcS (.t 49) (.some (.t 54)) (.some (.t 60))⟩, ⟨.some 62, .none, .mv (.t 9)⟩, ⟨.some 63, .none, .call 270 .strict [.t 62]⟩, ⟨.some 64, .none, .bin .neq (.t 61) (.t 63)⟩]) (.cond (.t 64) (.exit 0) .skip)) (.seq (.rg false [⟨.some 65, .none, .mv (.t 4)⟩, ⟨.some 66, .none, .mv (.t 9)⟩, ⟨.some 67, .none, .bsl 1 (.string ⟨#[]⟩) 1 [(0, .t 66)]⟩, ⟨.some 68, .none, .app 1 16 false (.t 65) (.t 67)⟩, ⟨.some 4, .none, .mv (.t 68)⟩]) (.rg false [⟨.some 69, .none, .mv (.t 5)⟩, ⟨.some 70, .none, .mv (.t 7)⟩, ⟨.some 71, .none, .mv (.t 6)⟩, ⟨.some 72, .none, .bin .add (.t 70) (.t 71)⟩, ⟨.some 73, .none, .bin .add (.t 72) (.c (.int .i64 4))⟩, ⟨.some 74, .none, .bin .add (.t 69) (.t 73)⟩, ⟨.some 5, .none, .mv (.t 74)⟩])))))))))) (.seq (.rg false [⟨.some 75, .none, .mv (.t 4)⟩, ⟨.some 76, .none, .mv (.t 5)⟩, ⟨.some 2, .none, .mv (.t 75)⟩, ⟨.some 3, .none, .mv (.t 76)⟩]) .ret))))))
def d263 : Def := (.code 1 [.tmp 2] (.seq (.rg false [⟨.some 2, .none, .mv (.c (.slice .none 0 0))⟩]) (.seq (.rg false [⟨.some 6, .none, .mv (.c (.slice .none 0 0))⟩, ⟨.some 3, .none, .mv (.t 6)⟩]) (.seq (.block 0 (.loop (.seq (.seq (.rg false [⟨.some 7, .none, .mv (.t 0)⟩, ⟨.some 8, .none, .lenS (.t 7)⟩, ⟨.some 9, .none, .bin .gtr (.t 8) (.c (.int .i64 0))⟩]) (.cond (.t 9) .skip (.exit 0))) (.block 1 (.seq (.rg false [⟨.some 10, .none, .mv (.t 0)⟩, ⟨.some 11, .none, .call 272 .pure [.t 10]⟩, ⟨.some 4, .none, .box (.c (.agg #[.int .i64 0, .int .i64 0, .int .i64 0]))⟩, ⟨.none, .none, .st 3 (.t 4) (.t 11)⟩]) (.seq (.seq (.rg false [⟨.some 12, .none, .fa 2 (.t 4)⟩, ⟨.some 13, .none, .ld .none (.t 12)⟩, ⟨.some 14, .none, .bin .neq (.t 13) (.c (.int .i64 0))⟩, ⟨.some 15, .none, .mv (.t 14)⟩, ⟨.some 16, .some (15, false), .fa 0 (.t 4)⟩, ⟨.some 17, .some (15, false), .ld .none (.t 16)⟩, ⟨.some 18, .some (15, false), .bin .gtr (.t 17) (.c (.int .i64 4096))⟩, ⟨.some 19, .none, .pick (.t 15) (.c (.bool true)) (.t 18)⟩, ⟨.some 20, .none, .mv (.t 19)⟩, ⟨.some 21, .some (20, false), .fa 1 (.t 4)⟩, ⟨.some 22, .some (20, false), .ld .none (.t 21)⟩, ⟨.some 23, .some (20, false), .fa 0 (.t 4)⟩, ⟨.some 24, .some (20, false), .ld .none (.t 23)⟩, ⟨.some 25, .some (20, false), .bin .add (.t 22) (.t 24)⟩, ⟨.some 26, .some (20, false), .bin .add (.t 25) (.c (.int .i64 4))⟩, ⟨.some 27, .some (20, false), .mv (.t 0)⟩, ⟨.some 28, .some (20, false), .lenS (.t 27)⟩, ⟨.some 29, .some (20, false), .bin .gtr (.t 26) (.t 28)⟩, ⟨.some 30, .none, .pick (.t 20) (.c (.bool true)) (.t 29)⟩]) (.cond (.t 30) (.seq (.rg false [⟨.some 31, .none, .mv (.t 3)⟩, ⟨.some 2, .none, .mv (.t 31)⟩]) .ret) .skip)) (.seq (.rg false [⟨.some 32, .none, .mv (.t 0)⟩, ⟨.some 33, .none, .fa 1 (.t 4)⟩, ⟨.some 34, .none, .ld .none (.t 33)⟩, ⟨.some 35, .none, .fa 1 (.t 4)⟩, ⟨.some 36, .none, .ld .none (.t 35)⟩, ⟨.some 37, .none, .fa 0 (.t 4)⟩, ⟨.some 38, .none, .ld .none (.t 37)⟩, ⟨.some 39, .none, .bin .add (.t 36) (.t 38)⟩, ⟨.some 40, .none, .slcS (.t 32) (.some (.t 34)) (.some (.t 39))⟩, ⟨.some 5, .none, .mv (.t 40)⟩]) (.seq (.seq (.rg true [⟨.some 41, .none, .mv (.t 0)⟩, ⟨.some 42, .none, .fa 1 (.t 4)⟩, ⟨.some 43, .none, .ld .none (.t 42)⟩, ⟨.some 44, .none, .fa 0 (.t 4)⟩, ⟨.some 45, .none, .ld .none (.t 44)⟩, ⟨.some 46, .none, .bin .add (.t 43) (.t 45)⟩, ⟨.some 47, .none, .bin .add (.t 46) (.c (.int .i64 4))⟩, ⟨.some 48, .none, .slcS (.t 41) .none (.some (.t 47))⟩, ⟨.some 49, .none, .mv (.t 5)⟩, ⟨.some 50, .none, .call 264 .strict [.t 49]⟩, ⟨.some 51, .none, .bin .neq (.t 48) (.t 50)⟩]) (.cond (.t 51) (.seq (.rg false [⟨.some 52, .none, .mv (.t 3)⟩, ⟨.some 2, .none, .mv (.t 52)⟩]) .ret) .skip)) (.seq (.rg false [⟨.some 53, .none, .mv (.t 3)⟩, ⟨.some 54, .none, .mv (.t 5)⟩, ⟨.some 55, .none, .bsl 1 (.string ⟨#[]⟩) 1 [(0, .t 54)]⟩, ⟨.some 56, .none, .app 1 16 false (.t 53) (.t 55)⟩, ⟨.some 3, .none, .mv (.t 56)⟩]) (.rg false [⟨.some 57, .none, .mv (.t 0)⟩, ⟨.some 58, .none, .fa 1 (.t 4)⟩, ⟨.some 59, .none, .ld .none (.t 58)⟩, ⟨.some 60, .none, .fa 0 (.t 4)⟩, ⟨.some 61, .none, .ld .none (.t 60)⟩, ⟨.some 62, .none, .bin .add (.t 59) (.t 61)⟩, ⟨.some 63, .none, .bin .add (.t 62) (.c (.int .i64 4))⟩, ⟨.some 64, .none, .slcS (.t 57) (.some (.t 63)) .none⟩, ⟨.some 0, .none, .mv (.t 64)⟩])))))))))) (.seq (.rg false [⟨.some 65, .none, .mv (.t 3)⟩, ⟨.some 2, .none, .mv (.t 65)⟩]) .ret)))))
def lie : List (Nat × Def) := [(261, d261), (262, d262)]
def lif : List (Nat × Def) := [(264, d264), (263, d263)]
section
variable {env : Nat → Option Def} {fr : Fr} {σ σ' σ'' : St} {K : Fr → St → Prop} {Q : X → Fr → St → Prop} {p : PV} {bs : List UInt8}
theorem a264 (A : Has lia env) (D : Has lid env) (F : Has lif env) {d : List UInt8} (hd : d.length ≤ 1000000) : AV env 264 [txt d] = some (txt (recB d)) := by
  have h1 := a273 D hd
  have h2 := a274 A (s := d) (by omega)
  have hl := encN_len d.length
  have c1 : (encN d.length).length + d.length ≤ 9223372036854775807 := by omega
  have c2 : (encN d.length ++ d).length + (chkB d).length ≤ 9223372036854775807 := by rw [List.length_append, chkB_len]; omega
  refine AV_wp (F (264, d264) (by simp [lif])) rfl ?_
  (repeat' first
    | refine w_seq ?_ | refine w_rg ?_ | refine wo_nil ?_ | refine g_skU ?_ | refine g_skT ?_ | refine g_skF ?_
    | ((first | apply s_plain | apply s_void | apply s_guard | apply g_goT | apply g_goF); · simp only [go_sem, Nat.reduceEqDiff, Nat.reduceAdd, Nat.reduceLeDiff, h1, h2, c1, c2]; (first | done | rfl))
    | ((first | apply g_T | apply g_F | apply g_gT | apply g_gF); · intro q1_; (first | intro q2_ | have q2_ := q1_); simp only [go_sem, Nat.reduceEqDiff, Nat.reduceAdd, Nat.reduceLeDiff, h1, h2, c1, c2, q1_, q2_]; (first | done | rfl))
    | (apply w_condX; · simp only [go_sem, Nat.reduceEqDiff, Nat.reduceAdd, Nat.reduceLeDiff, h1, h2, c1, c2]; (first | done | rfl)); (first | refine wcd_T ?_ | refine wcd_F ?_)
    | refine w_skip ?_ | refine w_exit ?_ | refine w_ret ?_
    | fail
    )
  exact ⟨by first | exact .inr rfl | exact .inr trivial | exact .inl rfl, by simp only [go_sem, Nat.reduceEqDiff, Nat.reduceAdd, Nat.reduceLeDiff, retOf, resOf, recB]; first | done | rfl⟩
theorem a261 (B : Has lib env) (C : Has lic env) (E : Has lie env) {d : List UInt8} (hd : d.length ≤ 1000000) : AV env 261 [txt d] = some (if d.length > 4096 then .tu [txt [], .sc (.int .i64 2)] else .tu [txt (recB d), .sc (.int .i64 0)]) := by
  have h1 := a269 C hd
  have h2 := a270 B (s := d) (by omega)
  have hl := encN_len d.length
  have c1 : (encN d.length).length + d.length ≤ 9223372036854775807 := by omega
  have c2 : (encN d.length ++ d).length + (chkB d).length ≤ 9223372036854775807 := by rw [List.length_append, chkB_len]; omega
  refine AV_wp (E (261, d261) (by simp [lie])) rfl ?_
  by_cases h : d.length > 4096
  · have hd : decide ((d.length : Int) > 4096) = true := by simp; omega
    rw [if_pos h]
    (repeat' first
    | refine w_seq ?_ | refine w_rg ?_ | refine wo_nil ?_ | refine g_skU ?_ | refine g_skT ?_ | refine g_skF ?_
    | ((first | apply s_plain | apply s_void | apply s_guard | apply g_goT | apply g_goF); · simp only [go_sem, Nat.reduceEqDiff, Nat.reduceAdd, Nat.reduceLeDiff, hd]; (first | done | rfl))
    | ((first | apply g_T | apply g_F | apply g_gT | apply g_gF); · intro q1_; (first | intro q2_ | have q2_ := q1_); simp only [go_sem, Nat.reduceEqDiff, Nat.reduceAdd, Nat.reduceLeDiff, hd, q1_, q2_]; (first | done | rfl))
    | (apply w_condX; · simp only [go_sem, Nat.reduceEqDiff, Nat.reduceAdd, Nat.reduceLeDiff, hd]; (first | done | rfl)); (first | refine wcd_T ?_ | refine wcd_F ?_)
    | refine w_skip ?_ | refine w_exit ?_ | refine w_ret ?_
    | fail
    )
    exact ⟨by first | exact .inr rfl | exact .inr trivial | exact .inl rfl, by simp only [go_sem, Nat.reduceEqDiff, Nat.reduceAdd, Nat.reduceLeDiff, retOf, resOf]; first | done | rfl⟩
  · have hd : decide ((d.length : Int) > 4096) = false := by simp; omega
    rw [if_neg h]
    (repeat' first
    | refine w_seq ?_ | refine w_rg ?_ | refine wo_nil ?_ | refine g_skU ?_ | refine g_skT ?_ | refine g_skF ?_
    | ((first | apply s_plain | apply s_void | apply s_guard | apply g_goT | apply g_goF); · simp only [go_sem, Nat.reduceEqDiff, Nat.reduceAdd, Nat.reduceLeDiff, hd, h1, h2, c1, c2]; (first | done | rfl))
    | ((first | apply g_T | apply g_F | apply g_gT | apply g_gF); · intro q1_; (first | intro q2_ | have q2_ := q1_); simp only [go_sem, Nat.reduceEqDiff, Nat.reduceAdd, Nat.reduceLeDiff, hd, h1, h2, c1, c2, q1_, q2_]; (first | done | rfl))
    | (apply w_condX; · simp only [go_sem, Nat.reduceEqDiff, Nat.reduceAdd, Nat.reduceLeDiff, hd, h1, h2, c1, c2]; (first | done | rfl)); (first | refine wcd_T ?_ | refine wcd_F ?_)
    | refine w_skip ?_ | refine w_exit ?_ | refine w_ret ?_
    | fail
    )
    exact ⟨by first | exact .inr rfl | exact .inr trivial | exact .inl rfl, by simp only [go_sem, Nat.reduceEqDiff, Nat.reduceAdd, Nat.reduceLeDiff, retOf, resOf, recB]; first | done | rfl⟩
theorem bad_prog {t : List UInt8} {len i : Nat} (hl : t.length = len - i) (hi : i ≤ len) (hs : len ≤ 1000000) :
    (((headN t).2.2 != 0) || decide (((headN t).1 : Int) > 4096) || decide (IntKind.i64.wrap (((headN t).1 : Int) + 4) > IntKind.i64.wrap (IntKind.i64.wrap ((len : Int) - (i : Int)) - ((headN t).2.1 : Int)))) = !goodN t := by
  have w1 : IntKind.i64.wrap ((len : Int) - (i : Int)) = ((t.length : Nat) : Int) := by rw [IntKind.wrap_i64]; omega
  rw [w1]
  by_cases h0 : (headN t).2.2 = 0
  · have he : headN t = ((headN t).1, (headN t).2.1, 0) := by rw [← h0]
    obtain ⟨_, h9, _, _⟩ := headN_ok he
    by_cases hn : (headN t).1 > 4096
    · have e1 : goodN t = false := by
        rw [Bool.eq_false_iff]
        intro h
        have := (good_ok h).2.1
        unfold numN at this
        omega
      have e2 : decide (((headN t).1 : Int) > 4096) = true := by simp; omega
      rw [e1, e2, h0]; rfl
    · have w2 : IntKind.i64.wrap (((headN t).1 : Int) + 4) = (((headN t).1 : Int) + 4) := by rw [IntKind.wrap_i64]; omega
      have w3 : IntKind.i64.wrap (((t.length : Nat) : Int) - ((headN t).2.1 : Int)) = ((t.length : Nat) : Int) - ((headN t).2.1 : Int) := by rw [IntKind.wrap_i64]; omega
      have e2 : decide (((headN t).1 : Int) > 4096) = false := by simp; omega
      have e3 : decide (numN t ≤ 4096) = true := by simp only [decide_eq_true_eq]; unfold numN; omega
      rw [w2, w3, e2, h0]
      unfold goodN
      rw [h0, e3]
      by_cases hx : useN t + numN t + 4 ≤ t.length
      · have e4 : decide (useN t + numN t + 4 ≤ t.length) = true := by simpa using hx
        have e5 : decide ((((headN t).1 : Int) + 4) > ((t.length : Nat) : Int) - ((headN t).2.1 : Int)) = false := by
          unfold useN numN at hx
          simp only [decide_eq_false_iff_not]
          omega
        rw [e4, e5]; rfl
      · have e4 : decide (useN t + numN t + 4 ≤ t.length) = false := by simpa using hx
        have e5 : decide ((((headN t).1 : Int) + 4) > ((t.length : Nat) : Int) - ((headN t).2.1 : Int)) = true := by
          unfold useN numN at hx
          simp only [decide_eq_true_eq]
          omega
        rw [e4, e5]; rfl
  · have e1 : goodN t = false := by
      unfold goodN
      simp [h0]
    have e2 : ((headN t).2.2 != 0) = true := by simpa using h0
    rw [e1, e2]; rfl
theorem a262 (B : Has lib env) (C : Has lic env) (E : Has lie env) {s : List UInt8} (hs : s.length ≤ 1000000) : AV env 262 [txt s] = some (.tu [.sl (txts (scanS s)), .sc (.int .i64 (((scanS s).flatMap recB).length : Int))]) := by
  refine AV_wp (E (262, d262) (by simp [lie])) rfl ?_
  (repeat' first
    | refine w_seq ?_ | refine w_rg ?_ | refine wo_nil ?_ | refine g_skU ?_ | refine g_skT ?_ | refine g_skF ?_
    | ((first | apply s_plain | apply s_void | apply s_guard | apply g_goT | apply g_goF); · simp only [go_sem, Nat.reduceEqDiff, Nat.reduceAdd, Nat.reduceLeDiff]; (first | done | rfl))
    | ((first | apply g_T | apply g_F | apply g_gT | apply g_gF); · intro q1_; (first | intro q2_ | have q2_ := q1_); simp only [go_sem, Nat.reduceEqDiff, Nat.reduceAdd, Nat.reduceLeDiff, q1_, q2_]; (first | done | rfl))
    | (apply w_condX; · simp only [go_sem, Nat.reduceEqDiff, Nat.reduceAdd, Nat.reduceLeDiff]; (first | done | rfl)); (first | refine wcd_T ?_ | refine wcd_F ?_)
    | refine w_skip ?_ | refine w_exit ?_ | refine w_ret ?_
    | fail
    )
  refine w_block (w_loopF (fun m fr σ => ∃ (i : Nat) (out : List (List UInt8)), m = s.length - i ∧ i ≤ s.length ∧ out.length ≤ i ∧ fr 5 = .sc (.int .i64 (i : Int)) ∧ Gat σ [68] 1 false (fr 4) (txts out) ∧ scanS s = out ++ scanS (s.drop i) ∧ i = (out.flatMap recB).length) ?_ s.length ?_)
  · rintro m fr1 σ1 ⟨i, out, rfl, hi, hol, f5, hg, hsc, hil⟩ hfr
    have f0_0 := hfr 0 rfl; try (simp only [go_sem, Nat.reduceEqDiff, Nat.reduceAdd, Nat.reduceLeDiff] at f0_0)
    have fin : ∀ {x : List (List UInt8)}, scanS s = out ++ x → x = [] → (scanS s) = out := fun h h0 => by rw [h, h0, List.append_nil]
    by_cases hlt : i < s.length
    · have hd : decide ((i : Int) < (s.length : Int)) = true := by simp; omega
      have hne : s.drop i ≠ [] := by
        intro h
        have := congrArg List.length h
        simp at this; omega
      have hdl : (s.drop i).length = s.length - i := List.length_drop
      have b1 : bound s.length (.sc (.int .i64 (i : Int))) = some i := bound_nat (by omega)
      have hdt : (s.take s.length).drop i = s.drop i := by rw [List.take_length]
      have h271 := a271 C (s := s.drop i) (by omega)
      have hse := scanS_eq (s.drop i)
      rw [if_neg hne] at hse
      (repeat' first
    | refine w_seq ?_ | refine w_rg ?_ | refine wo_nil ?_ | refine g_skU ?_ | refine g_skT ?_ | refine g_skF ?_
    | ((first | apply s_plain | apply s_void | apply s_guard | apply g_goT | apply g_goF); · simp only [go_sem, Nat.reduceEqDiff, Nat.reduceAdd, Nat.reduceLeDiff, f0_0, f5, hd]; (first | done | rfl))
    | ((first | apply g_T | apply g_F | apply g_gT | apply g_gF); · intro q1_; (first | intro q2_ | have q2_ := q1_); simp only [go_sem, Nat.reduceEqDiff, Nat.reduceAdd, Nat.reduceLeDiff, f0_0, f5, hd, q1_, q2_]; (first | done | rfl))
    | (apply w_condX; · simp only [go_sem, Nat.reduceEqDiff, Nat.reduceAdd, Nat.reduceLeDiff, f0_0, f5, hd]; (first | done | rfl)); (first | refine wcd_T ?_ | refine wcd_F ?_)
    | refine w_skip ?_ | refine w_exit ?_ | refine w_ret ?_
    | fail
    )
      refine w_block ?_
      (repeat' first
    | refine w_seq ?_ | refine w_rg ?_ | refine wo_nil ?_ | refine g_skU ?_ | refine g_skT ?_ | refine g_skF ?_
    | ((first | apply s_plain | apply s_void | apply s_guard | apply g_goT | apply g_goF); · simp only [go_sem, Nat.reduceEqDiff, Nat.reduceAdd, Nat.reduceLeDiff, f0_0, f5, b1, hdt, h271]; (first | done | rfl))
    | ((first | apply g_T | apply g_F | apply g_gT | apply g_gF); · intro q1_; (first | intro q2_ | have q2_ := q1_); simp only [go_sem, Nat.reduceEqDiff, Nat.reduceAdd, Nat.reduceLeDiff, f0_0, f5, b1, hdt, h271, q1_, q2_]; (first | done | rfl))
    | fail
    )
      cases hgd : goodN (s.drop i) with
      | false =>
        rw [hgd] at hse
        have hend := fin hsc hse
        have hbad := bad_prog hdl hi hs
        rw [hgd, Bool.not_false] at hbad
        (repeat' first
    | refine w_seq ?_ | refine w_rg ?_ | refine wo_nil ?_ | refine g_skU ?_ | refine g_skT ?_ | refine g_skF ?_
    | ((first | apply s_plain | apply s_void | apply s_guard | apply g_goT | apply g_goF); · simp only [go_sem, Nat.reduceEqDiff, Nat.reduceAdd, Nat.reduceLeDiff, f0_0, f5, hbad]; (first | done | rfl))
    | ((first | apply g_T | apply g_F | apply g_gT | apply g_gF); · intro q1_; (first | intro q2_ | have q2_ := q1_); simp only [go_sem, Nat.reduceEqDiff, Nat.reduceAdd, Nat.reduceLeDiff, f0_0, f5, hbad, q1_, q2_]; (first | done | rfl))
    | (apply w_condX; · simp only [go_sem, Nat.reduceEqDiff, Nat.reduceAdd, Nat.reduceLeDiff, f0_0, f5, hbad]; (first | done | rfl)); (first | refine wcd_T ?_ | refine wcd_F ?_)
    | refine w_skip ?_ | refine w_exit ?_ | refine w_ret ?_
    | fail
    )
        try simp only [if_true]
        try show Wp _ _ _ _ _
        have hfz := gat_fzd hg (txts_fz σ1 9 _)
        (repeat' first
    | refine w_seq ?_ | refine w_rg ?_ | refine wo_nil ?_ | refine g_skU ?_ | refine g_skT ?_ | refine g_skF ?_
    | ((first | apply s_plain | apply s_void | apply s_guard | apply g_goT | apply g_goF); · simp only [go_sem, Nat.reduceEqDiff, Nat.reduceAdd, Nat.reduceLeDiff, f5]; (first | done | rfl))
    | ((first | apply g_T | apply g_F | apply g_gT | apply g_gF); · intro q1_; (first | intro q2_ | have q2_ := q1_); simp only [go_sem, Nat.reduceEqDiff, Nat.reduceAdd, Nat.reduceLeDiff, f5, q1_, q2_]; (first | done | rfl))
    | (apply w_condX; · simp only [go_sem, Nat.reduceEqDiff, Nat.reduceAdd, Nat.reduceLeDiff, f5]; (first | done | rfl)); (first | refine wcd_T ?_ | refine wcd_F ?_)
    | refine w_skip ?_ | refine w_exit ?_ | refine w_ret ?_
    | fail
    )
        exact ⟨by first | exact .inr rfl | exact .inr trivial | exact .inl rfl, by simp only [go_sem, Nat.reduceEqDiff, Nat.reduceAdd, Nat.reduceLeDiff, retOf, resOf, hfz, hend, hil]; first | done | rfl⟩
        all_goals first | done | rfl
      | true =>
        have hbad := bad_prog hdl hi hs
        rw [hgd, Bool.not_true] at hbad
        obtain ⟨q1, q2, q3, q4, q5⟩ := good_ok hgd
        rw [q1] at hbad
        have w1 : IntKind.i64.wrap ((i : Int) + ((useN (s.drop i) : Nat) : Int)) = ((i + useN (s.drop i) : Nat) : Int) := by rw [IntKind.wrap_i64]; omega
        have w2 : IntKind.i64.wrap (((i + useN (s.drop i) : Nat) : Int) + ((numN (s.drop i) : Nat) : Int)) = ((i + useN (s.drop i) + numN (s.drop i) : Nat) : Int) := by rw [IntKind.wrap_i64]; omega
        have w3 : IntKind.i64.wrap (((i + useN (s.drop i) + numN (s.drop i) : Nat) : Int) + 4) = ((i + useN (s.drop i) + numN (s.drop i) + 4 : Nat) : Int) := by rw [IntKind.wrap_i64]; omega
        have b2 : bound s.length (.sc (.int .i64 ((i + useN (s.drop i) + numN (s.drop i) : Nat) : Int))) = some (i + useN (s.drop i) + numN (s.drop i)) := bound_nat (by omega)
        have b3 : bound (i + useN (s.drop i) + numN (s.drop i)) (.sc (.int .i64 ((i + useN (s.drop i) : Nat) : Int))) = some (i + useN (s.drop i)) := bound_nat (by omega)
        have b4 : bound s.length (.sc (.int .i64 ((i + useN (s.drop i) + numN (s.drop i) + 4 : Nat) : Int))) = some (i + useN (s.drop i) + numN (s.drop i) + 4) := bound_nat (by omega)
        have b5 : bound (i + useN (s.drop i) + numN (s.drop i) + 4) (.sc (.int .i64 ((i + useN (s.drop i) + numN (s.drop i) : Nat) : Int))) = some (i + useN (s.drop i) + numN (s.drop i)) := bound_nat (by omega)
        have hda : (s.take (i + useN (s.drop i) + numN (s.drop i))).drop (i + useN (s.drop i)) = dataN (s.drop i) := by
          unfold dataN
          rw [List.drop_drop, List.drop_take]
          congr 1
          omega
        have hch : (s.take (i + useN (s.drop i) + numN (s.drop i) + 4)).drop (i + useN (s.drop i) + numN (s.drop i)) = ((s.drop i).drop (useN (s.drop i) + numN (s.drop i))).take 4 := by
          rw [List.drop_drop, List.drop_take, Nat.add_assoc i]
          congr 1
          omega
        have h270 := a270 B (s := dataN (s.drop i)) (by rw [dataN_len hgd]; omega)
        (repeat' first
    | refine w_seq ?_ | refine w_rg ?_ | refine wo_nil ?_ | refine g_skU ?_ | refine g_skT ?_ | refine g_skF ?_
    | ((first | apply s_plain | apply s_void | apply s_guard | apply g_goT | apply g_goF); · simp only [go_sem, Nat.reduceEqDiff, Nat.reduceAdd, Nat.reduceLeDiff, f0_0, q1, hbad, f5, w1, w2, b2, b3, hda]; (first | done | rfl))
    | ((first | apply g_T | apply g_F | apply g_gT | apply g_gF); · intro q1_; (first | intro q2_ | have q2_ := q1_); simp only [go_sem, Nat.reduceEqDiff, Nat.reduceAdd, Nat.reduceLeDiff, f0_0, q1, hbad, f5, w1, w2, b2, b3, hda, q1_, q2_]; (first | done | rfl))
    | (apply w_condX; · simp only [go_sem, Nat.reduceEqDiff, Nat.reduceAdd, Nat.reduceLeDiff, f0_0, q1, hbad, f5, w1, w2, b2, b3, hda]; (first | done | rfl)); (first | refine wcd_T ?_ | refine wcd_F ?_)
    | refine w_skip ?_ | refine w_exit ?_ | refine w_ret ?_
    | fail
    )
        have hfit : (!(((s.drop i).drop (useN (s.drop i) + numN (s.drop i))).take 4 == chkB (dataN (s.drop i)))) = !fitN (s.drop i) := by
          unfold fitN
          rw [Bool.eq_iff_iff]
          simp
        cases hft : fitN (s.drop i) with
        | false =>
          rw [hgd, hft] at hse
          have hend := fin hsc hse
          rw [hft, Bool.not_false] at hfit
          (repeat' first
    | refine w_seq ?_ | refine w_rg ?_ | refine wo_nil ?_ | refine g_skU ?_ | refine g_skT ?_ | refine g_skF ?_
    | ((first | apply s_plain | apply s_void | apply s_guard | apply g_goT | apply g_goF); · simp only [go_sem, Nat.reduceEqDiff, Nat.reduceAdd, Nat.reduceLeDiff, f0_0, f5, w1, w2, w3, b4, b5, hch, h270, hfit]; (first | done | rfl))
    | ((first | apply g_T | apply g_F | apply g_gT | apply g_gF); · intro q1_; (first | intro q2_ | have q2_ := q1_); simp only [go_sem, Nat.reduceEqDiff, Nat.reduceAdd, Nat.reduceLeDiff, f0_0, f5, w1, w2, w3, b4, b5, hch, h270, hfit, q1_, q2_]; (first | done | rfl))
    | (apply w_condX; · simp only [go_sem, Nat.reduceEqDiff, Nat.reduceAdd, Nat.reduceLeDiff, f0_0, f5, w1, w2, w3, b4, b5, hch, h270, hfit]; (first | done | rfl)); (first | refine wcd_T ?_ | refine wcd_F ?_)
    | refine w_skip ?_ | refine w_exit ?_ | refine w_ret ?_
    | fail
    )
          try simp only [if_true]
          try show Wp _ _ _ _ _
          have hfz := gat_fzd hg (txts_fz σ1 9 _)
          (repeat' first
    | refine w_seq ?_ | refine w_rg ?_ | refine wo_nil ?_ | refine g_skU ?_ | refine g_skT ?_ | refine g_skF ?_
    | ((first | apply s_plain | apply s_void | apply s_guard | apply g_goT | apply g_goF); · simp only [go_sem, Nat.reduceEqDiff, Nat.reduceAdd, Nat.reduceLeDiff, f5]; (first | done | rfl))
    | ((first | apply g_T | apply g_F | apply g_gT | apply g_gF); · intro q1_; (first | intro q2_ | have q2_ := q1_); simp only [go_sem, Nat.reduceEqDiff, Nat.reduceAdd, Nat.reduceLeDiff, f5, q1_, q2_]; (first | done | rfl))
    | (apply w_condX; · simp only [go_sem, Nat.reduceEqDiff, Nat.reduceAdd, Nat.reduceLeDiff, f5]; (first | done | rfl)); (first | refine wcd_T ?_ | refine wcd_F ?_)
    | refine w_skip ?_ | refine w_exit ?_ | refine w_ret ?_
    | fail
    )
          exact ⟨by first | exact .inr rfl | exact .inr trivial | exact .inl rfl, by simp only [go_sem, Nat.reduceEqDiff, Nat.reduceAdd, Nat.reduceLeDiff, retOf, resOf, hfz, hend, hil]; first | done | rfl⟩
          all_goals first | done | rfl
        | true =>
          rw [hgd, hft] at hse
          rw [hft, Bool.not_true] at hfit
          have w4 : IntKind.i64.wrap (((useN (s.drop i) : Nat) : Int) + ((numN (s.drop i) : Nat) : Int)) = ((useN (s.drop i) + numN (s.drop i) : Nat) : Int) := by rw [IntKind.wrap_i64]; omega
          have w5 : IntKind.i64.wrap (((useN (s.drop i) + numN (s.drop i) : Nat) : Int) + 4) = ((useN (s.drop i) + numN (s.drop i) + 4 : Nat) : Int) := by rw [IntKind.wrap_i64]; omega
          have w6 : IntKind.i64.wrap ((i : Int) + ((useN (s.drop i) + numN (s.drop i) + 4 : Nat) : Int)) = ((i + (useN (s.drop i) + numN (s.drop i) + 4) : Nat) : Int) := by rw [IntKind.wrap_i64]; omega
          (repeat' first
    | refine w_seq ?_ | refine w_rg ?_ | refine wo_nil ?_ | refine g_skU ?_ | refine g_skT ?_ | refine g_skF ?_
    | ((first | apply s_plain | apply s_void | apply s_guard | apply g_goT | apply g_goF); · simp only [go_sem, Nat.reduceEqDiff, Nat.reduceAdd, Nat.reduceLeDiff, f0_0, f5, w1, w2, w3, b4, b5, hch, h270, hfit]; (first | done | rfl))
    | ((first | apply g_T | apply g_F | apply g_gT | apply g_gF); · intro q1_; (first | intro q2_ | have q2_ := q1_); simp only [go_sem, Nat.reduceEqDiff, Nat.reduceAdd, Nat.reduceLeDiff, f0_0, f5, w1, w2, w3, b4, b5, hch, h270, hfit, q1_, q2_]; (first | done | rfl))
    | (apply w_condX; · simp only [go_sem, Nat.reduceEqDiff, Nat.reduceAdd, Nat.reduceLeDiff, f0_0, f5, w1, w2, w3, b4, b5, hch, h270, hfit]; (first | done | rfl)); (first | refine wcd_T ?_ | refine wcd_F ?_)
    | refine w_skip ?_ | refine w_exit ?_ | refine w_ret ?_
    | fail
    )
          refine s_gat (os := [68]) (w := false) (xs := txts out) (e := txt (dataN (s.drop i))) (by simp only [go_sem, Nat.reduceEqDiff, Nat.reduceAdd, Nat.reduceLeDiff]; exact hg.new _) (by decide) (by simp only [go_sem, Nat.reduceEqDiff, Nat.reduceAdd, Nat.reduceLeDiff, srcOf, elemsOf]) rfl rfl (by rw [txts_len]; omega) ?_
          intro p2 σ2 hg2
          have hg3 : Gat σ2 [68] 1 false p2 (txts (out ++ [dataN (s.drop i)])) := by
            rw [txts, List.map_append, List.map_singleton]; exact hg2
          (repeat' first
    | refine w_seq ?_ | refine w_rg ?_ | refine wo_nil ?_ | refine g_skU ?_ | refine g_skT ?_ | refine g_skF ?_
    | ((first | apply s_plain | apply s_void | apply s_guard | apply g_goT | apply g_goF); · simp only [go_sem, Nat.reduceEqDiff, Nat.reduceAdd, Nat.reduceLeDiff, f5, q1, w4, w5, w6]; (first | done | rfl))
    | ((first | apply g_T | apply g_F | apply g_gT | apply g_gF); · intro q1_; (first | intro q2_ | have q2_ := q1_); simp only [go_sem, Nat.reduceEqDiff, Nat.reduceAdd, Nat.reduceLeDiff, f5, q1, w4, w5, w6, q1_, q2_]; (first | done | rfl))
    | (apply w_condX; · simp only [go_sem, Nat.reduceEqDiff, Nat.reduceAdd, Nat.reduceLeDiff, f5, q1, w4, w5, w6]; (first | done | rfl)); (first | refine wcd_T ?_ | refine wcd_F ?_)
    | refine w_skip ?_ | refine w_exit ?_ | refine w_ret ?_
    | fail
    )
          try simp only [if_true]
          try show Wp _ _ _ _ _
          refine ⟨s.length - (i + (useN (s.drop i) + numN (s.drop i) + 4)), by omega, i + (useN (s.drop i) + numN (s.drop i) + 4), out ++ [dataN (s.drop i)], rfl, by omega, by rw [List.length_append]; simp; omega, by simp only [go_sem, Nat.reduceEqDiff, Nat.reduceAdd, Nat.reduceLeDiff, q1, w4, w5, w6], by simp only [go_sem, Nat.reduceEqDiff, Nat.reduceAdd, Nat.reduceLeDiff]; exact hg3, ?_, ?_⟩
          · rw [hsc, hse]
            unfold restN
            rw [List.drop_drop, List.append_assoc]
            rfl
          · rw [List.flatMap_append, List.length_append, ← hil, List.flatMap_singleton, recB_len hgd]
    · have hil2 : i = s.length := by omega
      have hd : decide ((i : Int) < (s.length : Int)) = false := by simp; omega
      have hend := fin hsc (by rw [hil2, List.drop_length]; exact scanS_nil)
      (repeat' first
    | refine w_seq ?_ | refine w_rg ?_ | refine wo_nil ?_ | refine g_skU ?_ | refine g_skT ?_ | refine g_skF ?_
    | ((first | apply s_plain | apply s_void | apply s_guard | apply g_goT | apply g_goF); · simp only [go_sem, Nat.reduceEqDiff, Nat.reduceAdd, Nat.reduceLeDiff, f0_0, f5, hd]; (first | done | rfl))
    | ((first | apply g_T | apply g_F | apply g_gT | apply g_gF); · intro q1_; (first | intro q2_ | have q2_ := q1_); simp only [go_sem, Nat.reduceEqDiff, Nat.reduceAdd, Nat.reduceLeDiff, f0_0, f5, hd, q1_, q2_]; (first | done | rfl))
    | (apply w_condX; · simp only [go_sem, Nat.reduceEqDiff, Nat.reduceAdd, Nat.reduceLeDiff, f0_0, f5, hd]; (first | done | rfl)); (first | refine wcd_T ?_ | refine wcd_F ?_)
    | refine w_skip ?_ | refine w_exit ?_ | refine w_ret ?_
    | fail
    )
      try simp only [if_true]
      try show Wp _ _ _ _ _
      have hfz := gat_fzd hg (txts_fz σ1 9 _)
      (repeat' first
    | refine w_seq ?_ | refine w_rg ?_ | refine wo_nil ?_ | refine g_skU ?_ | refine g_skT ?_ | refine g_skF ?_
    | ((first | apply s_plain | apply s_void | apply s_guard | apply g_goT | apply g_goF); · simp only [go_sem, Nat.reduceEqDiff, Nat.reduceAdd, Nat.reduceLeDiff, f5]; (first | done | rfl))
    | ((first | apply g_T | apply g_F | apply g_gT | apply g_gF); · intro q1_; (first | intro q2_ | have q2_ := q1_); simp only [go_sem, Nat.reduceEqDiff, Nat.reduceAdd, Nat.reduceLeDiff, f5, q1_, q2_]; (first | done | rfl))
    | (apply w_condX; · simp only [go_sem, Nat.reduceEqDiff, Nat.reduceAdd, Nat.reduceLeDiff, f5]; (first | done | rfl)); (first | refine wcd_T ?_ | refine wcd_F ?_)
    | refine w_skip ?_ | refine w_exit ?_ | refine w_ret ?_
    | fail
    )
      exact ⟨by first | exact .inr rfl | exact .inr trivial | exact .inl rfl, by simp only [go_sem, Nat.reduceEqDiff, Nat.reduceAdd, Nat.reduceLeDiff, retOf, resOf, hfz, hend, hil]; first | done | rfl⟩
      all_goals first | done | rfl
  · exact ⟨0, [], by omega, by omega, by simp, by simp only [go_sem, Nat.reduceEqDiff, Nat.reduceAdd, Nat.reduceLeDiff]; first | done | rfl, by simp only [go_sem, Nat.reduceEqDiff, Nat.reduceAdd, Nat.reduceLeDiff]; exact .em, by simp, rfl⟩
theorem a263 (A : Has lia env) (D : Has lid env) (F : Has lif env) {s : List UInt8} (hs : s.length ≤ 1000000) : AV env 263 [txt s] = some (.sl (txts (scanS s))) := by
  refine AV_wp (F (263, d263) (by simp [lif])) rfl ?_
  (repeat' first
    | refine w_seq ?_ | refine w_rg ?_ | refine wo_nil ?_ | refine g_skU ?_ | refine g_skT ?_ | refine g_skF ?_
    | ((first | apply s_plain | apply s_void | apply s_guard | apply g_goT | apply g_goF); · simp only [go_sem, Nat.reduceEqDiff, Nat.reduceAdd, Nat.reduceLeDiff]; (first | done | rfl))
    | ((first | apply g_T | apply g_F | apply g_gT | apply g_gF); · intro q1_; (first | intro q2_ | have q2_ := q1_); simp only [go_sem, Nat.reduceEqDiff, Nat.reduceAdd, Nat.reduceLeDiff, q1_, q2_]; (first | done | rfl))
    | (apply w_condX; · simp only [go_sem, Nat.reduceEqDiff, Nat.reduceAdd, Nat.reduceLeDiff]; (first | done | rfl)); (first | refine wcd_T ?_ | refine wcd_F ?_)
    | refine w_skip ?_ | refine w_exit ?_ | refine w_ret ?_
    | fail
    )
  refine w_block (w_loopF (fun m fr σ => ∃ (t : List UInt8) (out : List (List UInt8)), m = t.length ∧ t.length ≤ s.length ∧ out.length + t.length ≤ s.length ∧ fr 0 = txt t ∧ Fresh σ ∧ Gat σ [56] 1 false (fr 3) (txts out) ∧ scanS s = out ++ scanS t) ?_ s.length ?_)
  · rintro m fr1 σ1 ⟨t, out, rfl, ht, hol, f0, hF, hg, hsc⟩ hfr
    have fin : ∀ {x : List (List UInt8)}, scanS s = out ++ x → x = [] → (scanS s) = out := fun h h0 => by rw [h, h0, List.append_nil]
    by_cases hne : t = []
    · subst hne
      have hd : decide ((([] : List UInt8).length : Int) > 0) = false := by simp
      have hend := fin hsc scanS_nil
      (repeat' first
    | refine w_seq ?_ | refine w_rg ?_ | refine wo_nil ?_ | refine g_skU ?_ | refine g_skT ?_ | refine g_skF ?_
    | ((first | apply s_plain | apply s_void | apply s_guard | apply g_goT | apply g_goF); · simp only [go_sem, Nat.reduceEqDiff, Nat.reduceAdd, Nat.reduceLeDiff, f0, hd]; (first | done | rfl))
    | ((first | apply g_T | apply g_F | apply g_gT | apply g_gF); · intro q1_; (first | intro q2_ | have q2_ := q1_); simp only [go_sem, Nat.reduceEqDiff, Nat.reduceAdd, Nat.reduceLeDiff, f0, hd, q1_, q2_]; (first | done | rfl))
    | (apply w_condX; · simp only [go_sem, Nat.reduceEqDiff, Nat.reduceAdd, Nat.reduceLeDiff, f0, hd]; (first | done | rfl)); (first | refine wcd_T ?_ | refine wcd_F ?_)
    | refine w_skip ?_ | refine w_exit ?_ | refine w_ret ?_
    | fail
    )
      try simp only [if_true]
      try show Wp _ _ _ _ _
      have hfz := hg.fz (txts_fz σ1 10 _)
      (repeat' first
    | refine w_seq ?_ | refine w_rg ?_ | refine wo_nil ?_ | refine g_skU ?_ | refine g_skT ?_ | refine g_skF ?_
    | ((first | apply s_plain | apply s_void | apply s_guard | apply g_goT | apply g_goF); · simp only [go_sem, Nat.reduceEqDiff, Nat.reduceAdd, Nat.reduceLeDiff]; (first | done | rfl))
    | ((first | apply g_T | apply g_F | apply g_gT | apply g_gF); · intro q1_; (first | intro q2_ | have q2_ := q1_); simp only [go_sem, Nat.reduceEqDiff, Nat.reduceAdd, Nat.reduceLeDiff, q1_, q2_]; (first | done | rfl))
    | (apply w_condX; · simp only [go_sem, Nat.reduceEqDiff, Nat.reduceAdd, Nat.reduceLeDiff]; (first | done | rfl)); (first | refine wcd_T ?_ | refine wcd_F ?_)
    | refine w_skip ?_ | refine w_exit ?_ | refine w_ret ?_
    | fail
    )
      exact ⟨by first | exact .inr rfl | exact .inr trivial | exact .inl rfl, by simp only [go_sem, Nat.reduceEqDiff, Nat.reduceAdd, Nat.reduceLeDiff, retOf, resOf, hfz, hend]; first | done | rfl⟩
    · have hlt : 0 < t.length := List.length_pos_iff.2 hne
      have hd : decide ((t.length : Int) > 0) = true := by simp; omega
      have h272 := a272 D (s := t) (by omega)
      have hse := scanS_eq t
      rw [if_neg hne] at hse
      (repeat' first
    | refine w_seq ?_ | refine w_rg ?_ | refine wo_nil ?_ | refine g_skU ?_ | refine g_skT ?_ | refine g_skF ?_
    | ((first | apply s_plain | apply s_void | apply s_guard | apply g_goT | apply g_goF); · simp only [go_sem, Nat.reduceEqDiff, Nat.reduceAdd, Nat.reduceLeDiff, f0, hd]; (first | done | rfl))
    | ((first | apply g_T | apply g_F | apply g_gT | apply g_gF); · intro q1_; (first | intro q2_ | have q2_ := q1_); simp only [go_sem, Nat.reduceEqDiff, Nat.reduceAdd, Nat.reduceLeDiff, f0, hd, q1_, q2_]; (first | done | rfl))
    | (apply w_condX; · simp only [go_sem, Nat.reduceEqDiff, Nat.reduceAdd, Nat.reduceLeDiff, f0, hd]; (first | done | rfl)); (first | refine wcd_T ?_ | refine wcd_F ?_)
    | refine w_skip ?_ | refine w_exit ?_ | refine w_ret ?_
    | fail
    )
      refine w_block ?_
      (repeat' first
    | refine w_seq ?_ | refine w_rg ?_ | refine wo_nil ?_ | refine g_skU ?_ | refine g_skT ?_ | refine g_skF ?_
    | ((first | apply s_plain | apply s_void | apply s_guard | apply g_goT | apply g_goF); · simp only [go_sem, Nat.reduceEqDiff, Nat.reduceAdd, Nat.reduceLeDiff, f0, h272, List.set_cons_succ]; (first | done | rfl))
    | ((first | apply g_T | apply g_F | apply g_gT | apply g_gF); · intro q1_; (first | intro q2_ | have q2_ := q1_); simp only [go_sem, Nat.reduceEqDiff, Nat.reduceAdd, Nat.reduceLeDiff, f0, h272, List.set_cons_succ, q1_, q2_]; (first | done | rfl))
    | fail
    )
      have hbad : (((headN t).2.2 != 0) || decide (((headN t).1 : Int) > 4096) || decide (IntKind.i64.wrap (IntKind.i64.wrap (((headN t).2.1 : Int) + ((headN t).1 : Int)) + 4) > (t.length : Int))) = !goodN t := by
        by_cases h0 : (headN t).2.2 = 0
        · have he : headN t = ((headN t).1, (headN t).2.1, 0) := by rw [← h0]
          obtain ⟨_, h9, _, _⟩ := headN_ok he
          by_cases hn : (headN t).1 > 4096
          · have e1 : goodN t = false := by
              rw [Bool.eq_false_iff]
              intro h
              have := (good_ok h).2.1
              unfold numN at this
              omega
            have e2 : decide (((headN t).1 : Int) > 4096) = true := by simp; omega
            rw [e1, e2, h0]; rfl
          · have w2 : IntKind.i64.wrap (((headN t).2.1 : Int) + ((headN t).1 : Int)) = (((headN t).2.1 : Int) + ((headN t).1 : Int)) := by rw [IntKind.wrap_i64]; omega
            have w3 : IntKind.i64.wrap ((((headN t).2.1 : Int) + ((headN t).1 : Int)) + 4) = (((headN t).2.1 : Int) + ((headN t).1 : Int)) + 4 := by rw [IntKind.wrap_i64]; omega
            have e2 : decide (((headN t).1 : Int) > 4096) = false := by simp; omega
            have e3 : decide (numN t ≤ 4096) = true := by simp only [decide_eq_true_eq]; unfold numN; omega
            rw [w2, w3, e2, h0]
            unfold goodN
            rw [h0, e3]
            by_cases hx : useN t + numN t + 4 ≤ t.length
            · have e4 : decide (useN t + numN t + 4 ≤ t.length) = true := by simpa using hx
              have e5 : decide ((((headN t).2.1 : Int) + ((headN t).1 : Int)) + 4 > ((t.length : Nat) : Int)) = false := by
                unfold useN numN at hx
                simp only [decide_eq_false_iff_not]
                omega
              rw [e4, e5]; rfl
            · have e4 : decide (useN t + numN t + 4 ≤ t.length) = false := by simpa using hx
              have e5 : decide ((((headN t).2.1 : Int) + ((headN t).1 : Int)) + 4 > ((t.length : Nat) : Int)) = true := by
                unfold useN numN at hx
                simp only [decide_eq_true_eq]
                omega
              rw [e4, e5]; rfl
        · have e1 : goodN t = false := by
            unfold goodN
            simp [h0]
          have e2 : ((headN t).2.2 != 0) = true := by simpa using h0
          rw [e1, e2]; rfl
      cases hgd : goodN t with
      | false =>
        rw [hgd] at hse
        have hend := fin hsc hse
        rw [hgd, Bool.not_false] at hbad
        (repeat' first
    | refine w_seq ?_ | refine w_rg ?_ | refine wo_nil ?_ | refine g_skU ?_ | refine g_skT ?_ | refine g_skF ?_
    | ((first | apply s_plain | apply s_void | apply s_guard | apply g_goT | apply g_goF); · simp only [go_sem, Nat.reduceEqDiff, Nat.reduceAdd, Nat.reduceLeDiff, f0, hbad, List.set_cons_succ]; (first | done | rfl))
    | ((first | apply g_T | apply g_F | apply g_gT | apply g_gF); · intro q1_; (first | intro q2_ | have q2_ := q1_); simp only [go_sem, Nat.reduceEqDiff, Nat.reduceAdd, Nat.reduceLeDiff, f0, hbad, List.set_cons_succ, q1_, q2_]; (first | done | rfl))
    | (apply w_condX; · simp only [go_sem, Nat.reduceEqDiff, Nat.reduceAdd, Nat.reduceLeDiff, f0, hbad, List.set_cons_succ]; (first | done | rfl)); (first | refine wcd_T ?_ | refine wcd_F ?_)
    | refine w_skip ?_ | refine w_exit ?_ | refine w_ret ?_
    | fail
    )
        have hfz : ∀ τ, τ = (σ1.new 2000004 ⟨3, [.agg [.sc (.int .i64 0), .sc (.int .i64 0), .sc (.int .i64 0)]], true, true⟩) → ∀ y, fz (τ.put 2000004 (σ1.c 2000004) y) 12 (fr1 3) = some (.sl (txts out)) := fun τ hτ y => by
          rw [hτ]
          exact ((hg.new _).put (d := 2000004) (by decide) y).fz (txts_fz _ 10 _)
        exact ⟨by first | exact .inr rfl | exact .inr trivial | exact .inl rfl, by simp only [go_sem, Nat.reduceEqDiff, Nat.reduceAdd, Nat.reduceLeDiff, retOf, resOf, hfz _ rfl, hend]; first | done | rfl⟩
      | true =>
        rw [hgd, Bool.not_true] at hbad
        obtain ⟨q1, q2, q3, q4, q5⟩ := good_ok hgd
        have w1 : IntKind.i64.wrap (((useN t : Nat) : Int) + ((numN t : Nat) : Int)) = ((useN t + numN t : Nat) : Int) := by rw [IntKind.wrap_i64]; omega
        have w2 : IntKind.i64.wrap (((useN t + numN t : Nat) : Int) + 4) = ((useN t + numN t + 4 : Nat) : Int) := by rw [IntKind.wrap_i64]; omega
        have b2 : bound t.length (.sc (.int .i64 ((useN t + numN t : Nat) : Int))) = some (useN t + numN t) := bound_nat (by omega)
        have b3 : bound (useN t + numN t) (.sc (.int .i64 ((useN t : Nat) : Int))) = some (useN t) := bound_nat (by omega)
        have b4 : bound t.length (.sc (.int .i64 ((useN t + numN t + 4 : Nat) : Int))) = some (useN t + numN t + 4) := bound_nat (by omega)
        have hda : (t.take (useN t + numN t)).drop (useN t) = dataN t := by
          unfold dataN
          rw [List.drop_take]
          congr 1
          omega
        have hrest : (t.take t.length).drop (useN t + numN t + 4) = restN t := by rw [List.take_length]; rfl
        have h264 := a264 A D F (d := dataN t) (by rw [dataN_len hgd]; omega)
        have hfit : (!(t.take (useN t + numN t + 4) == recB (dataN t))) = !fitN t := by
          rw [Bool.eq_iff_iff]
          have := fit_iff hgd
          simp
          rw [this]
          simp
        refine w_condX (b := false) (by simp only [go_sem, Nat.reduceEqDiff, Nat.reduceAdd, Nat.reduceLeDiff, f0, hbad, List.set_cons_succ]; first | done | rfl) ?_
        refine wcd_F ?_
        (repeat' first
    | refine w_seq ?_ | refine w_rg ?_ | refine wo_nil ?_ | refine g_skU ?_ | refine g_skT ?_ | refine g_skF ?_
    | ((first | apply s_plain | apply s_void | apply s_guard | apply g_goT | apply g_goF); · simp only [go_sem, Nat.reduceEqDiff, Nat.reduceAdd, Nat.reduceLeDiff, f0, q1, w1, w2, b2, b3, hda, List.set_cons_succ]; (first | done | rfl))
    | ((first | apply g_T | apply g_F | apply g_gT | apply g_gF); · intro q1_; (first | intro q2_ | have q2_ := q1_); simp only [go_sem, Nat.reduceEqDiff, Nat.reduceAdd, Nat.reduceLeDiff, f0, q1, w1, w2, b2, b3, hda, List.set_cons_succ, q1_, q2_]; (first | done | rfl))
    | (apply w_condX; · simp only [go_sem, Nat.reduceEqDiff, Nat.reduceAdd, Nat.reduceLeDiff, f0, q1, w1, w2, b2, b3, hda, List.set_cons_succ]; (first | done | rfl)); (first | refine wcd_T ?_ | refine wcd_F ?_)
    | refine w_skip ?_ | refine w_exit ?_ | refine w_ret ?_
    | fail
    )
        cases hft : fitN t with
        | false =>
          rw [hgd, hft] at hse
          have hend := fin hsc hse
          rw [hft, Bool.not_false] at hfit
          (repeat' first
    | refine w_seq ?_ | refine w_rg ?_ | refine wo_nil ?_ | refine g_skU ?_ | refine g_skT ?_ | refine g_skF ?_
    | ((first | apply s_plain | apply s_void | apply s_guard | apply g_goT | apply g_goF); · simp only [go_sem, Nat.reduceEqDiff, Nat.reduceAdd, Nat.reduceLeDiff, f0, q1, w1, w2, b4, h264, hfit, List.set_cons_succ, List.drop_zero]; (first | done | rfl))
    | ((first | apply g_T | apply g_F | apply g_gT | apply g_gF); · intro q1_; (first | intro q2_ | have q2_ := q1_); simp only [go_sem, Nat.reduceEqDiff, Nat.reduceAdd, Nat.reduceLeDiff, f0, q1, w1, w2, b4, h264, hfit, List.set_cons_succ, List.drop_zero, q1_, q2_]; (first | done | rfl))
    | (apply w_condX; · simp only [go_sem, Nat.reduceEqDiff, Nat.reduceAdd, Nat.reduceLeDiff, f0, q1, w1, w2, b4, h264, hfit, List.set_cons_succ, List.drop_zero]; (first | done | rfl)); (first | refine wcd_T ?_ | refine wcd_F ?_)
    | refine w_skip ?_ | refine w_exit ?_ | refine w_ret ?_
    | fail
    )
          have hfz : ∀ τ, τ = (σ1.new 2000004 ⟨3, [.agg [.sc (.int .i64 0), .sc (.int .i64 0), .sc (.int .i64 0)]], true, true⟩) → ∀ y, fz (τ.put 2000004 (σ1.c 2000004) y) 12 (fr1 3) = some (.sl (txts out)) := fun τ hτ y => by
            rw [hτ]
            exact ((hg.new _).put (d := 2000004) (by decide) y).fz (txts_fz _ 10 _)
          exact ⟨by first | exact .inr rfl | exact .inr trivial | exact .inl rfl, by simp only [go_sem, Nat.reduceEqDiff, Nat.reduceAdd, Nat.reduceLeDiff, retOf, resOf, hfz _ rfl, hend]; first | done | rfl⟩
        | true =>
          rw [hgd, hft] at hse
          rw [hft, Bool.not_true] at hfit
          (repeat' first
    | refine w_seq ?_ | refine w_rg ?_ | refine wo_nil ?_ | refine g_skU ?_ | refine g_skT ?_ | refine g_skF ?_
    | ((first | apply s_plain | apply s_void | apply s_guard | apply g_goT | apply g_goF); · simp only [go_sem, Nat.reduceEqDiff, Nat.reduceAdd, Nat.reduceLeDiff, f0, q1, w1, w2, b4, h264, hfit, List.set_cons_succ, List.drop_zero]; (first | done | rfl))
    | ((first | apply g_T | apply g_F | apply g_gT | apply g_gF); · intro q1_; (first | intro q2_ | have q2_ := q1_); simp only [go_sem, Nat.reduceEqDiff, Nat.reduceAdd, Nat.reduceLeDiff, f0, q1, w1, w2, b4, h264, hfit, List.set_cons_succ, List.drop_zero, q1_, q2_]; (first | done | rfl))
    | (apply w_condX; · simp only [go_sem, Nat.reduceEqDiff, Nat.reduceAdd, Nat.reduceLeDiff, f0, q1, w1, w2, b4, h264, hfit, List.set_cons_succ, List.drop_zero]; (first | done | rfl)); (first | refine wcd_T ?_ | refine wcd_F ?_)
    | refine w_skip ?_ | refine w_exit ?_ | refine w_ret ?_
    | fail
    )
          refine s_gat2 (d := 56) (t := 53) (x := .t 55) (xs := txts out) (e := txt (dataN t)) (by simp only [go_sem, Nat.reduceEqDiff, Nat.reduceAdd, Nat.reduceLeDiff]; exact ((hg.new _).put (d := 2000004) (by decide) _).new _)
            (((hF.new _ _).put (x := ⟨3, [.agg [.sc (.int .i64 0), .sc (.int .i64 0), .sc (.int .i64 0)]], true, true⟩) (by simp only [go_sem, Nat.reduceEqDiff, Nat.reduceAdd, Nat.reduceLeDiff]) _).new _ _) (by simp only [go_sem, Nat.reduceEqDiff, Nat.reduceAdd, Nat.reduceLeDiff, srcOf, elemsOf]) rfl rfl (by rw [txts_len]; omega) ?_
          intro p2 σ2 hg2 hF2 _ hm2 _ _
          have hg3 : Gat σ2 [56] 1 false p2 (txts (out ++ [dataN t])) := by
            rw [txts, List.map_append, List.map_singleton]; exact hg2
          have hm4 : σ2.m 2000004 (σ1.c 2000004) = some ⟨3, [.agg [.sc (.int .i64 ((headN t).1 : Int)), .sc (.int .i64 ((headN t).2.1 : Int)), .sc (.int .i64 (headN t).2.2)]], true, true⟩ := by
            rw [hm2 _ _ (by decide)]; simp only [go_sem, Nat.reduceEqDiff, Nat.reduceAdd, Nat.reduceLeDiff, List.set_cons_succ, q1]
          have b5 : bound t.length (.sc (.int .i64 ((useN t + numN t + 4 : Nat) : Int))) = some (useN t + numN t + 4) := b4
          have b6 : bound t.length (.sc (.int .i64 (t.length : Int))) = some t.length := bound_nat (Nat.le_refl _)
          (repeat' first
    | refine w_seq ?_ | refine w_rg ?_ | refine wo_nil ?_ | refine g_skU ?_ | refine g_skT ?_ | refine g_skF ?_
    | ((first | apply s_plain | apply s_void | apply s_guard | apply g_goT | apply g_goF); · simp only [go_sem, Nat.reduceEqDiff, Nat.reduceAdd, Nat.reduceLeDiff, f0, hm4, q1, w1, w2, b5, b6, hrest]; (first | done | rfl))
    | ((first | apply g_T | apply g_F | apply g_gT | apply g_gF); · intro q1_; (first | intro q2_ | have q2_ := q1_); simp only [go_sem, Nat.reduceEqDiff, Nat.reduceAdd, Nat.reduceLeDiff, f0, hm4, q1, w1, w2, b5, b6, hrest, q1_, q2_]; (first | done | rfl))
    | (apply w_condX; · simp only [go_sem, Nat.reduceEqDiff, Nat.reduceAdd, Nat.reduceLeDiff, f0, hm4, q1, w1, w2, b5, b6, hrest]; (first | done | rfl)); (first | refine wcd_T ?_ | refine wcd_F ?_)
    | refine w_skip ?_ | refine w_exit ?_ | refine w_ret ?_
    | fail
    )
          try simp only [if_true]
          try show Wp _ _ _ _ _
          have hrl : (restN t).length = t.length - (useN t + numN t + 4) := List.length_drop
          refine ⟨(restN t).length, by omega, restN t, out ++ [dataN t], rfl, by omega, by rw [List.length_append]; simp; omega, by simp only [go_sem, Nat.reduceEqDiff, Nat.reduceAdd, Nat.reduceLeDiff, f0, q1, w1, w2, b5, hrest], hF2, by simp only [go_sem, Nat.reduceEqDiff, Nat.reduceAdd, Nat.reduceLeDiff]; exact hg3, ?_⟩
          rw [hsc, hse, List.append_assoc]
          rfl
  · exact ⟨s, [], rfl, Nat.le_refl _, by simp, by simp only [go_sem, Nat.reduceEqDiff, Nat.reduceAdd, Nat.reduceLeDiff], Fresh.nil, by simp only [go_sem, Nat.reduceEqDiff, Nat.reduceAdd, Nat.reduceLeDiff]; exact .em, rfl⟩
end

def d260 : Def := (.code 2 [.tmp 4] (.seq (.rg false [⟨.some 4, .none, .mv (.c (.bool false))⟩]) (.seq (.rg false [⟨.some 5, .none, .mv (.t 0)⟩, ⟨.some 6, .none, .mv (.t 1)⟩, ⟨.some 7, .none, .call 89 .pure [.t 5, .t 6]⟩, ⟨.some 4, .none, .mv (.t 7)⟩]) .ret)))
def d251 : Def := (.code 2 [.tmp 4] (.seq (.rg false [⟨.some 4, .none, .mv (.c (.bool false))⟩]) (.seq (.rg true [⟨.some 13, .none, .mv (.t 0)⟩, ⟨.some 14, .none, .mv (.t 0)⟩, ⟨.some 15, .none, .lenS (.t 14)⟩, ⟨.some 16, .none, .mnmx false [.t 15, .c (.int .i64 4100)]⟩, ⟨.some 17, .none, .slcS (.t 13) .none (.some (.t 16))⟩, ⟨.some 18, .none, .mv (.t 1)⟩, ⟨.some 19, .none, .mv (.t 1)⟩, ⟨.some 20, .none, .lenS (.t 19)⟩, ⟨.some 21, .none, .mnmx false [.t 20, .c (.int .i64 9000)]⟩, ⟨.some 22, .none, .slcS (.t 18) .none (.some (.t 21))⟩, ⟨.some 0, .none, .mv (.t 17)⟩, ⟨.some 1, .none, .mv (.t 22)⟩]) (.seq (.rg false [⟨.some 24, .none, .mv (.t 0)⟩, ⟨.some 25, .none, .call 261 .pure [.t 24]⟩, ⟨.some 23, .none, .mv (.t 25)⟩, ⟨.some 26, .none, .ext (.t 23) 0⟩, ⟨.some 27, .none, .ext (.t 23) 1⟩, ⟨.some 5, .none, .mv (.t 26)⟩, ⟨.some 6, .none, .mv (.t 27)⟩]) (.seq (.rg false [⟨.some 29, .none, .mv (.t 1)⟩, ⟨.some 30, .none, .call 262 .pure [.t 29]⟩, ⟨.some 28, .none, .mv (.t 30)⟩, ⟨.some 31, .none, .ext (.t 28) 0⟩, ⟨.some 32, .none, .ext (.t 28) 1⟩, ⟨.some 7, .none, .mv (.t 31)⟩, ⟨.some 8, .none, .mv (.t 32)⟩]) (.seq (.rg false [⟨.some 33, .none, .mv (.t 1)⟩, ⟨.some 34, .none, .call 263 .pure [.t 33]⟩, ⟨.some 9, .none, .mv (.t 34)⟩, ⟨.some 10, .none, .mv (.c (.string ⟨#[]⟩))⟩]) (.seq (.seq (.rg false [⟨.some 35, .none, .mv (.t 9)⟩, ⟨.some 36, .none, .lenL (.t 35)⟩, ⟨.some 37, .none, .mv (.c (.int .i64 0))⟩]) (.block 0 (.loop (.seq (.rg false [⟨.some 38, .none, .bin .lss (.t 37) (.t 36)⟩]) (.seq (.cond (.t 38) .skip (.exit 0)) (.seq (.block 1 (.seq (.rg false [⟨.some 39, .none, .ia 1 (.t 35) (.t 37)⟩, ⟨.some 40, .none, .ld .none (.t 39)⟩, ⟨.some 12, .none, .mv (.t 40)⟩]) (.rg false [⟨.some 41, .none, .mv (.t 10)⟩, ⟨.some 42, .none, .mv (.t 12)⟩, ⟨.some 43, .none, .call 264 .pure [.t 42]⟩, ⟨.some 44, .none, .bin .add (.t 41) (.t 43)⟩, ⟨.some 10, .none, .mv (.t 44)⟩]))) (.rg false [⟨.some 45, .none, .bin .add (.t 37) (.c (.int .i64 1))⟩, ⟨.some 37, .none, .mv (.t 45)⟩]))))))) (.seq (.seq (.rg false [⟨.some 46, .none, .mv (.t 7)⟩, ⟨.some 47, .none, .mv (.t 9)⟩, ⟨.some 48, .none, .call 36 .pure [.t 46, .t 47]⟩, ⟨.some 49, .none, .un .not (.t 48)⟩, ⟨.some 50, .none, .mv (.t 49)⟩, ⟨.some 51, .some (50, false), .mv (.t 8)⟩, ⟨.some 52, .some (50, false), .mv (.t 10)⟩, ⟨.some 53, .some (50, false), .lenS (.t 52)⟩, ⟨.some 54, .some (50, false), .bin .neq (.t 51) (.t 53)⟩, ⟨.some 55, .none, .pick (.t 50) (.c (.bool true)) (.t 54)⟩, ⟨.some 56, .none, .mv (.t 55)⟩, ⟨.some 57, .some (56, false), .mv (.t 1)⟩, ⟨.some 58, .some (56, false), .mv (.t 10)⟩, ⟨.some 59, .some (56, false), .call 260 .pure [.t 57, .t 58]⟩, ⟨.some 60, .some (56, false), .un .not (.t 59)⟩, ⟨.some 61, .none, .pick (.t 56) (.c (.bool true)) (.t 60)⟩, ⟨.some 62, .none, .mv (.t 61)⟩, ⟨.some 63, .some (62, false), .call 254 .pure []⟩, ⟨.some 64, .some (62, false), .un .not (.t 63)⟩, ⟨.some 65, .none, .pick (.t 62) (.c (.bool true)) (.t 64)⟩]) (.cond (.t 65) (.seq (.rg false [⟨.some 4, .none, .mv (.c (.bool false))⟩]) .ret) .skip)) (.seq (.seq (.rg false [⟨.some 66, .none, .mv (.t 0)⟩, ⟨.some 67, .none, .lenS (.t 66)⟩, ⟨.some 68, .none, .bin .gtr (.t 67) (.c (.int .i64 4096))⟩]) (.cond (.t 68) (.seq (.rg false [⟨.some 69, .none, .mv (.t 6)⟩, ⟨.some 70, .none, .bin .eql (.t 69) (.c (.int .i64 2))⟩, ⟨.some 71, .none, .mv (.t 70)⟩, ⟨.some 72, .some (71, true), .mv (.t 5)⟩, ⟨.some 73, .some (71, true), .bin .eql (.t 72) (.c (.string ⟨#[]⟩))⟩, ⟨.some 74, .none, .pick (.t 71) (.t 73) (.c (.bool false))⟩, ⟨.some 4, .none, .mv (.t 74)⟩]) .ret) .skip)) (.seq (.rg false [⟨.some 75, .none, .mv (.t 6)⟩, ⟨.some 76, .none, .bin .eql (.t 75) (.c (.int .i64 0))⟩, ⟨.some 77, .none, .mv (.t 76)⟩, ⟨.some 78, .some (77, true), .mv (.t 5)⟩, ⟨.some 79, .some (77, true), .mv (.t 0)⟩, ⟨.some 80, .some (77, true), .call 264 .pure [.t 79]⟩, ⟨.some 81, .some (77, true), .bin .eql (.t 78) (.t 80)⟩, ⟨.some 82, .none, .pick (.t 77) (.t 81) (.c (.bool false))⟩, ⟨.some 4, .none, .mv (.t 82)⟩]) .ret))))))))))
def lig : List (Nat × Def) := [(89, d89), (260, d260)]
def lii : List (Nat × Def) := [(36, d36)]
def lih : List (Nat × Def) := [(251, d251)]
section
variable {env : Nat → Option Def} {fr : Fr} {σ σ' σ'' : St} {K : Fr → St → Prop} {Q : X → Fr → St → Prop} {p : PV} {bs : List UInt8}
theorem a36s (D : Has lii env) {a b : List (List UInt8)} (hn : a.length ≤ 9223372036854775807) : AV env 36 [.sl (txts a), .sl (txts b)] = some (.sc (.bool (decide (a = b)))) := by
  refine AV_wp (D (36, d36) (by simp [lii])) rfl ?_
  have hla := txts_len a
  have hlb := txts_len b
  (repeat' first
    | refine w_seq ?_ | refine w_rg ?_ | refine wo_nil ?_ | refine g_skU ?_ | refine g_skT ?_ | refine g_skF ?_
    | ((first | apply s_plain | apply s_void | apply s_guard | apply g_goT | apply g_goF); · simp only [go_sem, Nat.reduceEqDiff, Nat.reduceAdd, Nat.reduceLeDiff, hla, hlb]; (first | done | rfl))
    | ((first | apply g_T | apply g_F | apply g_gT | apply g_gF); · intro q1_; (first | intro q2_ | have q2_ := q1_); simp only [go_sem, Nat.reduceEqDiff, Nat.reduceAdd, Nat.reduceLeDiff, hla, hlb, q1_, q2_]; (first | done | rfl))
    | fail
    )
  by_cases hl : a.length = b.length
  · have hc : ((a.length : Int) != (b.length : Int)) = false := by rw [hl]; simp
    (repeat' first
    | refine w_seq ?_ | refine w_rg ?_ | refine wo_nil ?_ | refine g_skU ?_ | refine g_skT ?_ | refine g_skF ?_
    | ((first | apply s_plain | apply s_void | apply s_guard | apply g_goT | apply g_goF); · simp only [go_sem, Nat.reduceEqDiff, Nat.reduceAdd, Nat.reduceLeDiff, hc]; (first | done | rfl))
    | ((first | apply g_T | apply g_F | apply g_gT | apply g_gF); · intro q1_; (first | intro q2_ | have q2_ := q1_); simp only [go_sem, Nat.reduceEqDiff, Nat.reduceAdd, Nat.reduceLeDiff, hc, q1_, q2_]; (first | done | rfl))
    | (apply w_condX; · simp only [go_sem, Nat.reduceEqDiff, Nat.reduceAdd, Nat.reduceLeDiff, hc]; (first | done | rfl)); (first | refine wcd_T ?_ | refine wcd_F ?_)
    | refine w_skip ?_ | refine w_exit ?_ | refine w_ret ?_
    | fail
    )
    (repeat' first
    | refine w_seq ?_ | refine w_rg ?_ | refine wo_nil ?_ | refine g_skU ?_ | refine g_skT ?_ | refine g_skF ?_
    | ((first | apply s_plain | apply s_void | apply s_guard | apply g_goT | apply g_goF); · simp only [go_sem, Nat.reduceEqDiff, Nat.reduceAdd, Nat.reduceLeDiff, hla]; (first | done | rfl))
    | ((first | apply g_T | apply g_F | apply g_gT | apply g_gF); · intro q1_; (first | intro q2_ | have q2_ := q1_); simp only [go_sem, Nat.reduceEqDiff, Nat.reduceAdd, Nat.reduceLeDiff, hla, q1_, q2_]; (first | done | rfl))
    | fail
    )
    refine w_block (w_rangeF a.length hn (fun i fr σ => ∀ j, j < i → a[j]? = b[j]?) ⟨by decide, rfl, rfl⟩ (fun _ _ _ _ h => ⟨h, h, h⟩) (fun j hj => by omega) (by simp only [go_sem, Nat.reduceEqDiff, Nat.reduceAdd, Nat.reduceLeDiff]; first | done | rfl) (by simp only [go_sem, Nat.reduceEqDiff, Nat.reduceAdd, Nat.reduceLeDiff, hla]; first | done | rfl) ?_ ?_)
    · rintro i fr1 σ1 hi h3 hti hfr
      have f0_0 := hfr 0 rfl; have f0_1 := hfr 1 rfl; have f0_12 := hfr 12 rfl; try (simp only [go_sem, Nat.reduceEqDiff, Nat.reduceAdd, Nat.reduceLeDiff] at f0_0); try (simp only [go_sem, Nat.reduceEqDiff, Nat.reduceAdd, Nat.reduceLeDiff] at f0_1); try (simp only [go_sem, Nat.reduceEqDiff, Nat.reduceAdd, Nat.reduceLeDiff] at f0_12)
      have hi2 : i < b.length := by omega
      have qa := List.getElem?_eq_getElem hi
      have qb := List.getElem?_eq_getElem hi2
      have hx := txts_at qa
      have hy := txts_at qb
      have e1 : (0 : Int) ≤ (i : Int) ∧ (i : Int) < (a.length : Int) := by omega
      have e2 : (0 : Int) ≤ (i : Int) ∧ (i : Int) < (b.length : Int) := by omega
      refine w_block ?_
      (repeat' first
    | refine w_seq ?_ | refine w_rg ?_ | refine wo_nil ?_ | refine g_skU ?_ | refine g_skT ?_ | refine g_skF ?_
    | ((first | apply s_plain | apply s_void | apply s_guard | apply g_goT | apply g_goF); · simp only [go_sem, Nat.reduceEqDiff, Nat.reduceAdd, Nat.reduceLeDiff, f0_0, f0_1, f0_12, hti, e1, e2, hla, hlb, Int.toNat_natCast, hx, hy]; (first | done | rfl))
    | ((first | apply g_T | apply g_F | apply g_gT | apply g_gF); · intro q1_; (first | intro q2_ | have q2_ := q1_); simp only [go_sem, Nat.reduceEqDiff, Nat.reduceAdd, Nat.reduceLeDiff, f0_0, f0_1, f0_12, hti, e1, e2, hla, hlb, Int.toNat_natCast, hx, hy, q1_, q2_]; (first | done | rfl))
    | fail
    )
      by_cases he : a[i] = b[i]
      · have hb : (!(a[i] == b[i])) = false := by simp [he]
        (repeat' first
    | refine w_seq ?_ | refine w_rg ?_ | refine wo_nil ?_ | refine g_skU ?_ | refine g_skT ?_ | refine g_skF ?_
    | ((first | apply s_plain | apply s_void | apply s_guard | apply g_goT | apply g_goF); · simp only [go_sem, Nat.reduceEqDiff, Nat.reduceAdd, Nat.reduceLeDiff, hb]; (first | done | rfl))
    | ((first | apply g_T | apply g_F | apply g_gT | apply g_gF); · intro q1_; (first | intro q2_ | have q2_ := q1_); simp only [go_sem, Nat.reduceEqDiff, Nat.reduceAdd, Nat.reduceLeDiff, hb, q1_, q2_]; (first | done | rfl))
    | (apply w_condX; · simp only [go_sem, Nat.reduceEqDiff, Nat.reduceAdd, Nat.reduceLeDiff, hb]; (first | done | rfl)); (first | refine wcd_T ?_ | refine wcd_F ?_)
    | refine w_skip ?_ | refine w_exit ?_ | refine w_ret ?_
    | fail
    )
        intro j hj
        by_cases hji : j = i
        · rw [hji, qa, qb, he]
        · exact h3 j (by omega)
      · have hb : (!(a[i] == b[i])) = true := by simp [he]
        have hne : a ≠ b := fun h => he (by subst h; rfl)
        (repeat' first
    | refine w_seq ?_ | refine w_rg ?_ | refine wo_nil ?_ | refine g_skU ?_ | refine g_skT ?_ | refine g_skF ?_
    | ((first | apply s_plain | apply s_void | apply s_guard | apply g_goT | apply g_goF); · simp only [go_sem, Nat.reduceEqDiff, Nat.reduceAdd, Nat.reduceLeDiff, hb]; (first | done | rfl))
    | ((first | apply g_T | apply g_F | apply g_gT | apply g_gF); · intro q1_; (first | intro q2_ | have q2_ := q1_); simp only [go_sem, Nat.reduceEqDiff, Nat.reduceAdd, Nat.reduceLeDiff, hb, q1_, q2_]; (first | done | rfl))
    | (apply w_condX; · simp only [go_sem, Nat.reduceEqDiff, Nat.reduceAdd, Nat.reduceLeDiff, hb]; (first | done | rfl)); (first | refine wcd_T ?_ | refine wcd_F ?_)
    | refine w_skip ?_ | refine w_exit ?_ | refine w_ret ?_
    | fail
    )
        exact ⟨by first | exact .inr rfl | exact .inr trivial | exact .inl rfl, by simp only [go_sem, Nat.reduceEqDiff, Nat.reduceAdd, Nat.reduceLeDiff, retOf, resOf, decide_eq_false hne]; first | done | rfl⟩
    · rintro fr1 σ1 h3 hfr
      try simp only [if_true]
      have heq : a = b := List.ext_getElem? fun i => by
        by_cases hi : i < a.length
        · exact h3 i hi
        · rw [List.getElem?_eq_none (by omega), List.getElem?_eq_none (by omega)]
      (repeat' first
    | refine w_seq ?_ | refine w_rg ?_ | refine wo_nil ?_ | refine g_skU ?_ | refine g_skT ?_ | refine g_skF ?_
    | ((first | apply s_plain | apply s_void | apply s_guard | apply g_goT | apply g_goF); · simp only [go_sem, Nat.reduceEqDiff, Nat.reduceAdd, Nat.reduceLeDiff]; (first | done | rfl))
    | ((first | apply g_T | apply g_F | apply g_gT | apply g_gF); · intro q1_; (first | intro q2_ | have q2_ := q1_); simp only [go_sem, Nat.reduceEqDiff, Nat.reduceAdd, Nat.reduceLeDiff, q1_, q2_]; (first | done | rfl))
    | (apply w_condX; · simp only [go_sem, Nat.reduceEqDiff, Nat.reduceAdd, Nat.reduceLeDiff]; (first | done | rfl)); (first | refine wcd_T ?_ | refine wcd_F ?_)
    | refine w_skip ?_ | refine w_exit ?_ | refine w_ret ?_
    | fail
    )
      exact ⟨by first | exact .inr rfl | exact .inr trivial | exact .inl rfl, by simp only [go_sem, Nat.reduceEqDiff, Nat.reduceAdd, Nat.reduceLeDiff, retOf, resOf, decide_eq_true heq]; first | done | rfl⟩
  · have hc : ((a.length : Int) != (b.length : Int)) = true := by simp; omega
    have hne : a ≠ b := fun h => hl (by rw [h])
    (repeat' first
    | refine w_seq ?_ | refine w_rg ?_ | refine wo_nil ?_ | refine g_skU ?_ | refine g_skT ?_ | refine g_skF ?_
    | ((first | apply s_plain | apply s_void | apply s_guard | apply g_goT | apply g_goF); · simp only [go_sem, Nat.reduceEqDiff, Nat.reduceAdd, Nat.reduceLeDiff, hc]; (first | done | rfl))
    | ((first | apply g_T | apply g_F | apply g_gT | apply g_gF); · intro q1_; (first | intro q2_ | have q2_ := q1_); simp only [go_sem, Nat.reduceEqDiff, Nat.reduceAdd, Nat.reduceLeDiff, hc, q1_, q2_]; (first | done | rfl))
    | (apply w_condX; · simp only [go_sem, Nat.reduceEqDiff, Nat.reduceAdd, Nat.reduceLeDiff, hc]; (first | done | rfl)); (first | refine wcd_T ?_ | refine wcd_F ?_)
    | refine w_skip ?_ | refine w_exit ?_ | refine w_ret ?_
    | fail
    )
    exact ⟨by first | exact .inr rfl | exact .inr trivial | exact .inl rfl, by simp only [go_sem, Nat.reduceEqDiff, Nat.reduceAdd, Nat.reduceLeDiff, retOf, resOf, decide_eq_false hne]; first | done | rfl⟩
theorem h_a89 (G : Has lig env) {s t : List UInt8} : AV env 89 [txt s, txt t] = some (.sc (.bool (t.isPrefixOf s))) := by
  have e : (decide ((s.length : Int) ≥ (t.length : Int)) && (s.take t.length == t)) = t.isPrefixOf s := by
    rw [Bool.eq_iff_iff]
    simp only [Bool.and_eq_true, decide_eq_true_eq, beq_iff_eq, List.isPrefixOf_iff_prefix, List.prefix_iff_eq_take]
    constructor
    · exact fun h => h.2.symm
    · intro h
      have := congrArg List.length h
      rw [List.length_take] at this
      exact ⟨by omega, h.symm⟩
  rw [← e]
  refine AV_wp (G (89, d89) (by simp [lig])) rfl ?_
  (repeat' first
    | refine w_seq ?_ | refine w_rg ?_ | refine wo_nil ?_ | refine g_skU ?_ | refine g_skT ?_ | refine g_skF ?_
    | ((first | apply s_plain | apply s_void | apply s_guard | apply g_goT | apply g_goF); · simp only [go_sem, Nat.reduceEqDiff, Nat.reduceAdd, Nat.reduceLeDiff]; (first | done | rfl))
    | ((first | apply g_T | apply g_F | apply g_gT | apply g_gF); · intro q1_; (first | intro q2_ | have q2_ := q1_); simp only [go_sem, Nat.reduceEqDiff, Nat.reduceAdd, Nat.reduceLeDiff, q1_, q2_]; (first | done | rfl))
    | fail
    )
  refine g_T (v := txt (s.take t.length)) (by
    intro hb
    have hb' : t.length ≤ s.length := by simpa using hb
    have b1 : (0 : Int) ≤ (t.length : Int) ∧ (t.length : Int) ≤ (s.length : Int) := by omega
    simp only [go_sem, Nat.reduceEqDiff, Nat.reduceAdd, Nat.reduceLeDiff, bound, b1, Int.toNat_natCast, List.drop_zero]) ?_
  (repeat' first
    | refine w_seq ?_ | refine w_rg ?_ | refine wo_nil ?_ | refine g_skU ?_ | refine g_skT ?_ | refine g_skF ?_
    | ((first | apply s_plain | apply s_void | apply s_guard | apply g_goT | apply g_goF); · simp only [go_sem, Nat.reduceEqDiff, Nat.reduceAdd, Nat.reduceLeDiff]; (first | done | rfl))
    | ((first | apply g_T | apply g_F | apply g_gT | apply g_gF); · intro q1_; (first | intro q2_ | have q2_ := q1_); simp only [go_sem, Nat.reduceEqDiff, Nat.reduceAdd, Nat.reduceLeDiff, q1_, q2_]; (first | done | rfl))
    | (apply w_condX; · simp only [go_sem, Nat.reduceEqDiff, Nat.reduceAdd, Nat.reduceLeDiff]; (first | done | rfl)); (first | refine wcd_T ?_ | refine wcd_F ?_)
    | refine w_skip ?_ | refine w_exit ?_ | refine w_ret ?_
    | fail
    )
  exact ⟨by first | exact .inr rfl | exact .inr trivial | exact .inl rfl, by simp only [go_sem, Nat.reduceEqDiff, Nat.reduceAdd, Nat.reduceLeDiff, retOf, resOf]; first | done | rfl⟩
theorem a260 (G : Has lig env) {s t : List UInt8} : AV env 260 [txt s, txt t] = some (.sc (.bool (t.isPrefixOf s))) := by
  have h89 := h_a89 G (s := s) (t := t)
  refine AV_wp (G (260, d260) (by simp [lig])) rfl ?_
  (repeat' first
    | refine w_seq ?_ | refine w_rg ?_ | refine wo_nil ?_ | refine g_skU ?_ | refine g_skT ?_ | refine g_skF ?_
    | ((first | apply s_plain | apply s_void | apply s_guard | apply g_goT | apply g_goF); · simp only [go_sem, Nat.reduceEqDiff, Nat.reduceAdd, Nat.reduceLeDiff, h89]; (first | done | rfl))
    | ((first | apply g_T | apply g_F | apply g_gT | apply g_gF); · intro q1_; (first | intro q2_ | have q2_ := q1_); simp only [go_sem, Nat.reduceEqDiff, Nat.reduceAdd, Nat.reduceLeDiff, h89, q1_, q2_]; (first | done | rfl))
    | (apply w_condX; · simp only [go_sem, Nat.reduceEqDiff, Nat.reduceAdd, Nat.reduceLeDiff, h89]; (first | done | rfl)); (first | refine wcd_T ?_ | refine wcd_F ?_)
    | refine w_skip ?_ | refine w_exit ?_ | refine w_ret ?_
    | fail
    )
  exact ⟨by first | exact .inr rfl | exact .inr trivial | exact .inl rfl, by simp only [go_sem, Nat.reduceEqDiff, Nat.reduceAdd, Nat.reduceLeDiff, retOf, resOf]; first | done | rfl⟩
theorem cutN_len (s : List UInt8) (n : Nat) : (s.take n).length ≤ n := by rw [List.length_take]; omega
theorem cut_take (l : List UInt8) (n : Nat) : l.take (min l.length n) = l.take n := by
  by_cases h : l.length ≤ n
  · rw [Nat.min_eq_left h, List.take_length, List.take_of_length_le h]
  · rw [Nat.min_eq_right (by omega)]
theorem a251 (A : Has lia env) (B : Has lib env) (C : Has lic env) (D : Has lid env) (E : Has lie env) (F : Has lif env) (G : Has lig env) (I : Has lii env) (H : Has lih env) (hal : AV env 254 [] = some (.sc (.bool true))) (d0 s0 : List UInt8) :
    AV env 251 [txt d0, txt s0] = some (.sc (.bool true)) := by
  have b1 : ∀ (n : Nat) (k : IntKind), bound n (.sc (.int k (min (n : Int) 4100))) = some (min n 4100) := fun n k => bound_min rfl
  have b2 : ∀ (n : Nat) (k : IntKind), bound n (.sc (.int k (min (n : Int) 9000))) = some (min n 9000) := fun n k => bound_min rfl
  have c1 := cut_take d0 4100
  have c2 := cut_take s0 9000
  have l1 := cutN_len d0 4100
  have l2 := cutN_len s0 9000
  refine AV_wp (H (251, d251) (by simp [lih])) rfl ?_
  generalize d0.take 4100 = d at c1 l1
  generalize s0.take 9000 = s at c2 l2
  have h261 := a261 B C E (d := d) (by omega)
  have h262 := a262 B C E (s := s) (by omega)
  have h263 := a263 A D F (s := s) (by omega)
  have h264 := a264 A D F (d := d) (by omega)
  obtain ⟨r5, e5, hre, hcs⟩ : ∃ (r5 : List UInt8) (e5 : Int), (if d.length > 4096 then PV.tu [txt [], .sc (.int .i64 2)] else .tu [txt (recB d), .sc (.int .i64 0)]) = .tu [txt r5, .sc (.int .i64 e5)] ∧ (d.length > 4096 ∧ r5 = [] ∧ e5 = 2 ∨ ¬ d.length > 4096 ∧ r5 = recB d ∧ e5 = 0) := by
    by_cases h : d.length > 4096
    · exact ⟨[], 2, if_pos h, .inl ⟨h, rfl, rfl⟩⟩
    · exact ⟨recB d, 0, if_neg h, .inr ⟨h, rfl, rfl⟩⟩
  rw [hre] at h261
  obtain ⟨rest, hrest⟩ := scanS_pre s
  have hlen : ((scanS s).flatMap recB).length + rest.length = s.length := by
    have := congrArg List.length hrest
    rw [List.length_append] at this
    omega
  have hsm : ∀ x ∈ scanS s, x.length ≤ 9000 := by
    intro x hx
    have h1 : (recB x).length ≤ ((scanS s).flatMap recB).length := by
      obtain ⟨a, b, hab⟩ := List.append_of_mem hx
      rw [hab, List.flatMap_append, List.flatMap_cons]
      simp only [List.length_append]
      omega
    have h2 : x.length ≤ (recB x).length := by
      unfold recB
      simp only [List.length_append]
      omega
    omega
  have hpre : ((scanS s).flatMap recB).isPrefixOf s = true := by
    rw [List.isPrefixOf_iff_prefix]
    exact ⟨rest, hrest.symm⟩
  have hln : (scanS s).length ≤ 9000 := by
    have : ∀ l : List (List UInt8), l.length ≤ (l.flatMap recB).length := by
      intro l
      induction l with
      | nil => simp
      | cons a l ih =>
        rw [List.flatMap_cons, List.length_append, List.length_cons]
        have : 4 ≤ (recB a).length := by unfold recB; rw [List.length_append, chkB_len]; omega
        omega
    have := this (scanS s)
    omega
  generalize hW : scanS s = W at h262 h263 hlen hsm hpre hln
  have h36 := a36s I (a := W) (b := W) (by omega)
  have htl := txts_len W
  have h260 := a260 G (s := s) (t := W.flatMap recB)
  rw [hpre] at h260
  (repeat' first
    | refine w_seq ?_ | refine w_rg ?_ | refine wo_nil ?_ | refine g_skU ?_ | refine g_skT ?_ | refine g_skF ?_
    | ((first | apply s_plain | apply s_void | apply s_guard | apply g_goT | apply g_goF); · simp only [go_sem, Nat.reduceEqDiff, Nat.reduceAdd, Nat.reduceLeDiff, mn2, b1, b2, c1, c2, List.drop_zero, h261, h262, h263]; (first | done | rfl))
    | ((first | apply g_T | apply g_F | apply g_gT | apply g_gF); · intro q1_; (first | intro q2_ | have q2_ := q1_); simp only [go_sem, Nat.reduceEqDiff, Nat.reduceAdd, Nat.reduceLeDiff, mn2, b1, b2, c1, c2, List.drop_zero, h261, h262, h263, q1_, q2_]; (first | done | rfl))
    | fail
    )
  have hsl : W.length ≤ 9223372036854775807 := by omega
  refine w_block (w_rangeF W.length hsl (fun i fr σ => fr 10 = txt ((W.take i).flatMap recB)) ⟨by decide, rfl, rfl⟩ (fun i fr σ v h => ⟨by simp only [go_sem, Nat.reduceEqDiff, Nat.reduceAdd, Nat.reduceLeDiff]; exact h, by simp only [go_sem, Nat.reduceEqDiff, Nat.reduceAdd, Nat.reduceLeDiff]; exact h, by simp only [go_sem, Nat.reduceEqDiff, Nat.reduceAdd, Nat.reduceLeDiff]; exact h⟩) (by simp only [go_sem, Nat.reduceEqDiff, Nat.reduceAdd, Nat.reduceLeDiff, List.take_zero, List.flatMap_nil]) (by simp only [go_sem, Nat.reduceEqDiff, Nat.reduceAdd, Nat.reduceLeDiff]; first | done | rfl) (by simp only [go_sem, Nat.reduceEqDiff, Nat.reduceAdd, Nat.reduceLeDiff, htl]; first | done | rfl) ?_ ?_)
  · rintro i fr1 σ1 hi g10 hti hfr
    have f0_35 := hfr 35 rfl; have f0_36 := hfr 36 rfl; try (simp only [go_sem, Nat.reduceEqDiff, Nat.reduceAdd, Nat.reduceLeDiff] at f0_35); try (simp only [go_sem, Nat.reduceEqDiff, Nat.reduceAdd, Nat.reduceLeDiff] at f0_36)
    have hy := txts_at (List.getElem?_eq_getElem hi)
    have e1 : (0 : Int) ≤ (i : Int) ∧ (i : Int) < (W.length : Int) := by omega
    have hm := List.getElem_mem hi
    have h264i := a264 A D F (d := W[i]) (by have := hsm _ hm; omega)
    have hadd : (W.take (i + 1)).flatMap recB = (W.take i).flatMap recB ++ recB W[i] := by
      rw [List.take_succ_eq_append_getElem hi, List.flatMap_append, List.flatMap_singleton]
    have hc : ((W.take i).flatMap recB).length + (recB W[i]).length ≤ 9223372036854775807 := by
      have h1 : ((W.take (i + 1)).flatMap recB).length ≤ (W.flatMap recB).length := by
        conv => rhs; rw [← List.take_append_drop (i + 1) W, List.flatMap_append, List.length_append]
        omega
      rw [hadd, List.length_append] at h1
      omega
    refine w_block ?_
    (repeat' first
    | refine w_seq ?_ | refine w_rg ?_ | refine wo_nil ?_ | refine g_skU ?_ | refine g_skT ?_ | refine g_skF ?_
    | ((first | apply s_plain | apply s_void | apply s_guard | apply g_goT | apply g_goF); · simp only [go_sem, Nat.reduceEqDiff, Nat.reduceAdd, Nat.reduceLeDiff, f0_35, f0_36, hti, e1, htl, Int.toNat_natCast, hy, g10, h264i, hc]; (first | done | rfl))
    | ((first | apply g_T | apply g_F | apply g_gT | apply g_gF); · intro q1_; (first | intro q2_ | have q2_ := q1_); simp only [go_sem, Nat.reduceEqDiff, Nat.reduceAdd, Nat.reduceLeDiff, f0_35, f0_36, hti, e1, htl, Int.toNat_natCast, hy, g10, h264i, hc, q1_, q2_]; (first | done | rfl))
    | fail
    )
    simp only [go_sem, Nat.reduceEqDiff, Nat.reduceAdd, Nat.reduceLeDiff, hadd]
  · rintro fr1 σ1 g10 hfr
    rw [List.take_of_length_le (Nat.le_refl _)] at g10
    have e0_0 := hfr 0 rfl; have e0_1 := hfr 1 rfl; have e0_4 := hfr 4 rfl; have e0_5 := hfr 5 rfl; have e0_6 := hfr 6 rfl; have e0_7 := hfr 7 rfl; have e0_8 := hfr 8 rfl; have e0_9 := hfr 9 rfl; try (simp only [go_sem, Nat.reduceEqDiff, Nat.reduceAdd, Nat.reduceLeDiff] at e0_0); try (simp only [go_sem, Nat.reduceEqDiff, Nat.reduceAdd, Nat.reduceLeDiff] at e0_1); try (simp only [go_sem, Nat.reduceEqDiff, Nat.reduceAdd, Nat.reduceLeDiff] at e0_4); try (simp only [go_sem, Nat.reduceEqDiff, Nat.reduceAdd, Nat.reduceLeDiff] at e0_5); try (simp only [go_sem, Nat.reduceEqDiff, Nat.reduceAdd, Nat.reduceLeDiff] at e0_6); try (simp only [go_sem, Nat.reduceEqDiff, Nat.reduceAdd, Nat.reduceLeDiff] at e0_7); try (simp only [go_sem, Nat.reduceEqDiff, Nat.reduceAdd, Nat.reduceLeDiff] at e0_8); try (simp only [go_sem, Nat.reduceEqDiff, Nat.reduceAdd, Nat.reduceLeDiff] at e0_9)
    try simp only [if_true]
    have hne : decide (W = W) = true := by simp
    rcases hcs with ⟨hd, rfl, rfl⟩ | ⟨hd, rfl, rfl⟩
    · have e1 : decide ((d.length : Int) > 4096) = true := by simp; omega
      (repeat' first
    | refine w_seq ?_ | refine w_rg ?_ | refine wo_nil ?_ | refine g_skU ?_ | refine g_skT ?_ | refine g_skF ?_
    | ((first | apply s_plain | apply s_void | apply s_guard | apply g_goT | apply g_goF); · simp only [go_sem, Nat.reduceEqDiff, Nat.reduceAdd, Nat.reduceLeDiff, e0_0, e0_1, e0_4, e0_5, e0_6, e0_7, e0_8, e0_9, g10, h36, h260, hal, hne, bne_self_eq_false, beq_self_eq_true, e1]; (first | done | rfl))
    | ((first | apply g_T | apply g_F | apply g_gT | apply g_gF); · intro q1_; (first | intro q2_ | have q2_ := q1_); simp only [go_sem, Nat.reduceEqDiff, Nat.reduceAdd, Nat.reduceLeDiff, e0_0, e0_1, e0_4, e0_5, e0_6, e0_7, e0_8, e0_9, g10, h36, h260, hal, hne, bne_self_eq_false, beq_self_eq_true, e1, q1_, q2_]; (first | done | rfl))
    | (apply w_condX; · simp only [go_sem, Nat.reduceEqDiff, Nat.reduceAdd, Nat.reduceLeDiff, e0_0, e0_1, e0_4, e0_5, e0_6, e0_7, e0_8, e0_9, g10, h36, h260, hal, hne, bne_self_eq_false, beq_self_eq_true, e1]; (first | done | rfl)); (first | refine wcd_T ?_ | refine wcd_F ?_)
    | refine w_skip ?_ | refine w_exit ?_ | refine w_ret ?_
    | fail
    )
      exact ⟨by first | exact .inr rfl | exact .inr trivial | exact .inl rfl, by simp only [go_sem, Nat.reduceEqDiff, Nat.reduceAdd, Nat.reduceLeDiff, retOf, resOf]; first | done | rfl⟩
    · have e1 : decide ((d.length : Int) > 4096) = false := by simp; omega
      (repeat' first
    | refine w_seq ?_ | refine w_rg ?_ | refine wo_nil ?_ | refine g_skU ?_ | refine g_skT ?_ | refine g_skF ?_
    | ((first | apply s_plain | apply s_void | apply s_guard | apply g_goT | apply g_goF); · simp only [go_sem, Nat.reduceEqDiff, Nat.reduceAdd, Nat.reduceLeDiff, e0_0, e0_1, e0_4, e0_5, e0_6, e0_7, e0_8, e0_9, g10, h36, h260, hal, hne, bne_self_eq_false, beq_self_eq_true, e1, h264]; (first | done | rfl))
    | ((first | apply g_T | apply g_F | apply g_gT | apply g_gF); · intro q1_; (first | intro q2_ | have q2_ := q1_); simp only [go_sem, Nat.reduceEqDiff, Nat.reduceAdd, Nat.reduceLeDiff, e0_0, e0_1, e0_4, e0_5, e0_6, e0_7, e0_8, e0_9, g10, h36, h260, hal, hne, bne_self_eq_false, beq_self_eq_true, e1, h264, q1_, q2_]; (first | done | rfl))
    | (apply w_condX; · simp only [go_sem, Nat.reduceEqDiff, Nat.reduceAdd, Nat.reduceLeDiff, e0_0, e0_1, e0_4, e0_5, e0_6, e0_7, e0_8, e0_9, g10, h36, h260, hal, hne, bne_self_eq_false, beq_self_eq_true, e1, h264]; (first | done | rfl)); (first | refine wcd_T ?_ | refine wcd_F ?_)
    | refine w_skip ?_ | refine w_exit ?_ | refine w_ret ?_
    | fail
    )
      exact ⟨by first | exact .inr rfl | exact .inr trivial | exact .inl rfl, by simp only [go_sem, Nat.reduceEqDiff, Nat.reduceAdd, Nat.reduceLeDiff, retOf, resOf]; first | done | rfl⟩
end

section
variable {P : Program}
def fieldsOf (P : Program) (t : TypeId) : List (Nat × TypeId) := match P.underlying t with
  | some (.struct fs) => fs.toList.map fun f => (f.offset, f.type)
  | _ => []
end

end Go.Proofs.YtemoboghbdcjkaaDoorPv
