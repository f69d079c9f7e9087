/-
Own texts of the proof, merged: part 3.
-/
import Derived.Test.YthkjlpjogojfiaaGreatDoorPkRoutesFindB
import Derived.Test.YthkjlpjogojfiaaGreatDoorPvL
import Derived.HandedShaped
namespace Go.Proofs.YthkjlpjogojfiaaGreatDoorPv
open Go
set_option linter.unusedSimpArgs false
set_option linter.unusedVariables false
set_option maxHeartbeats 4000000
set_option maxRecDepth 8000
section
attribute [local go_sem ↓] e_mv e_pick e_bin e_eqs e_beq e_un e_cvi e_str e_s2b e_b2s e_box e_build e_bsl e_ld e_st e_nck e_mkf e_slcS e_slcL e_fa e_fld e_ia e_iaa e_ix e_ixa e_ext e_lenS e_lenL e_mnmx e_app e_appb e_bbx e_msl e_clr e_call e_callv e_icall e_slcA e_mkm e_mput e_mget e_mlen e_mdel pa_t pa_c pa_f slcSP_str hiOf_some hiOf_none loOf_some loOf_none set_eq set_ne
attribute [local go_sem] pv pv1 simple frOf_0 frOf_1 frOf_2 frOf_3 frOf_4 frOf_5 ne_eq not_false_eq_true if_true Bool.false_eq_true if_false pbin punary Option.map_some Option.bind_some pick_and pick_or opt_true Bool.true_and Bool.and_self Bool.and_true Bool.true_or Bool.false_or Bool.not_true Bool.not_false callE pcall_eq List.map_cons List.map_nil List.append_nil List.nil_append List.cons_append mapM_cons' mapM_nil' dep_eq fz_sc fz_sl fz_em fz_fn fz_fp fz_agg fz_tu fz_bx fz_ob Nat.lt_irrefl Nat.zero_lt_one Nat.lt_add_one flat clL cl Bool.or_true okc_sc okc_em okc_sl okc_ob okc_bx okc_fp okc_fn okc_agg okc_ifc cells_agg cells_sc cells_sl cells_em cells_ob cells_fn cells_bx cells_fp List.length_cons List.length_nil Nat.zero_add and_self true_and and_true new_m new_c put_m put_c nil_m nil_c nil_mm new_mm put_mm newM_m newM_c newM_mm putM_m putM_c putM_mm mkeyV_1 mkeyV_2 mapAt_eq deref List.getElem?_cons_zero List.getElem?_cons_succ List.drop_zero List.drop_succ_cons List.take_succ_cons List.take_zero Nat.le_refl false_and and_false decide_true decide_false lenP_em lenP_nil lenP_sl lenP_ob Int.ofNat_zero splice fillP fillE List.modify_zero_cons List.replicate_succ List.replicate_zero List.set_cons_zero List.drop_zero ba_data ba_size ba_toList ba_extract ba_append List.toList_toArray
def d345 : Def := (.code 1 [.tmp 2] (.seq (.rg false [⟨.some 2, .none, .mv (.c (.bool false))⟩]) (.seq (.seq (.rg false [⟨.some 3, .none, .mv (.c (.int .i64 0))⟩]) (.block 0 (.loop (.seq (.seq (.rg false [⟨.some 6, .none, .mv (.t 3)⟩, ⟨.some 7, .none, .mv (.t 0)⟩, ⟨.some 8, .none, .lenS (.t 7)⟩, ⟨.some 9, .none, .bin .lss (.t 6) (.t 8)⟩]) (.cond (.t 9) .skip (.exit 0))) (.seq (.block 1 (.seq (.rg false [⟨.some 12, .none, .mv (.t 0)⟩, ⟨.some 13, .none, .mv (.t 3)⟩, ⟨.some 14, .none, .ix (.t 12) (.t 13)⟩, ⟨.some 4, .none, .mv (.t 14)⟩]) (.seq (.rg false [⟨.some 15, .none, .mv (.t 4)⟩, ⟨.some 16, .none, .bin .geq (.t 15) (.c (.int .u8 97))⟩, ⟨.some 17, .none, .mv (.t 16)⟩, ⟨.some 18, .some (17, true), .mv (.t 4)⟩, ⟨.some 19, .some (17, true), .bin .leq (.t 18) (.c (.int .u8 122))⟩, ⟨.some 20, .none, .pick (.t 17) (.t 19) (.c (.bool false))⟩, ⟨.some 21, .none, .mv (.t 20)⟩, ⟨.some 22, .some (21, false), .mv (.t 4)⟩, ⟨.some 23, .some (21, false), .bin .geq (.t 22) (.c (.int .u8 65))⟩, ⟨.some 24, .some (21, false), .mv (.t 23)⟩, ⟨.some 25, .some (24, true), .mv (.t 4)⟩, ⟨.some 26, .some (24, true), .bin .leq (.t 25) (.c (.int .u8 90))⟩, ⟨.some 27, .some (21, false), .pick (.t 24) (.t 26) (.c (.bool false))⟩, ⟨.some 28, .none, .pick (.t 21) (.c (.bool true)) (.t 27)⟩, ⟨.some 29, .none, .mv (.t 28)⟩, ⟨.some 30, .some (29, false), .mv (.t 4)⟩, ⟨.some 31, .some (29, false), .bin .geq (.t 30) (.c (.int .u8 48))⟩, ⟨.some 32, .some (29, false), .mv (.t 31)⟩, ⟨.some 33, .some (32, true), .mv (.t 4)⟩, ⟨.some 34, .some (32, true), .bin .leq (.t 33) (.c (.int .u8 57))⟩, ⟨.some 35, .some (29, false), .pick (.t 32) (.t 34) (.c (.bool false))⟩, ⟨.some 36, .none, .pick (.t 29) (.c (.bool true)) (.t 35)⟩, ⟨.some 5, .none, .mv (.t 36)⟩]) (.seq (.rg false [⟨.some 37, .none, .mv (.t 5)⟩, ⟨.some 38, .none, .un .not (.t 37)⟩, ⟨.some 39, .none, .mv (.t 38)⟩, ⟨.some 40, .some (39, true), .mv (.t 4)⟩, ⟨.some 41, .some (39, true), .bin .neq (.t 40) (.c (.int .u8 95))⟩, ⟨.some 42, .none, .pick (.t 39) (.t 41) (.c (.bool false))⟩, ⟨.some 43, .none, .mv (.t 42)⟩, ⟨.some 44, .some (43, true), .mv (.t 4)⟩, ⟨.some 45, .some (43, true), .bin .neq (.t 44) (.c (.int .u8 45))⟩, ⟨.some 46, .none, .pick (.t 43) (.t 45) (.c (.bool false))⟩, ⟨.some 47, .none, .mv (.t 46)⟩, ⟨.some 48, .some (47, true), .mv (.t 4)⟩, ⟨.some 49, .some (47, true), .bin .neq (.t 48) (.c (.int .u8 46))⟩, ⟨.some 50, .none, .pick (.t 47) (.t 49) (.c (.bool false))⟩, ⟨.some 51, .none, .mv (.t 50)⟩, ⟨.some 52, .some (51, true), .mv (.t 4)⟩, ⟨.some 53, .some (51, true), .bin .neq (.t 52) (.c (.int .u8 47))⟩, ⟨.some 54, .none, .pick (.t 51) (.t 53) (.c (.bool false))⟩, ⟨.some 55, .none, .mv (.t 54)⟩, ⟨.some 56, .some (55, true), .mv (.t 4)⟩, ⟨.some 57, .some (55, true), .bin .neq (.t 56) (.c (.int .u8 58))⟩, ⟨.some 58, .none, .pick (.t 55) (.t 57) (.c (.bool false))⟩]) (.cond (.t 58) (.seq (.rg false [⟨.some 2, .none, .mv (.c (.bool false))⟩]) .ret) .skip))))) (.rg false [⟨.some 10, .none, .mv (.t 3)⟩, ⟨.some 11, .none, .bin .add (.t 10) (.c (.int .i64 1))⟩, ⟨.some 3, .none, .mv (.t 11)⟩])))))) (.seq (.rg false [⟨.some 59, .none, .mv (.t 0)⟩, ⟨.some 60, .none, .lenS (.t 59)⟩, ⟨.some 61, .none, .bin .leq (.t 60) (.c (.int .i64 64))⟩, ⟨.some 2, .none, .mv (.t 61)⟩]) .ret))))
def d342 : Def := (.code 1 [.tmp 2] (.seq (.rg false [⟨.some 1, .none, .box (.t 0)⟩, ⟨.some 2, .none, .mv (.c (.bool false))⟩]) (.seq (.seq (.rg false [⟨.some 5, .none, .fa 2 (.t 1)⟩, ⟨.some 6, .none, .ld .none (.t 5)⟩, ⟨.some 7, .none, .lenL (.t 6)⟩, ⟨.some 8, .none, .mv (.c (.int .i64 0))⟩]) (.block 0 (.loop (.seq (.rg false [⟨.some 9, .none, .bin .lss (.t 8) (.t 7)⟩]) (.seq (.cond (.t 9) .skip (.exit 0)) (.seq (.block 1 (.seq (.rg false [⟨.some 10, .none, .mv (.t 8)⟩, ⟨.some 11, .none, .ia 1 (.t 6) (.t 8)⟩, ⟨.some 12, .none, .ld .none (.t 11)⟩, ⟨.some 3, .none, .mv (.t 10)⟩, ⟨.some 4, .none, .mv (.t 12)⟩]) (.seq (.rg false [⟨.some 13, .none, .mv (.t 4)⟩, ⟨.some 14, .none, .call 345 .pure [.t 13]⟩, ⟨.some 15, .none, .un .not (.t 14)⟩, ⟨.some 16, .none, .mv (.t 15)⟩, ⟨.some 17, .some (16, false), .mv (.t 3)⟩, ⟨.some 18, .some (16, false), .bin .gtr (.t 17) (.c (.int .i64 0))⟩, ⟨.some 19, .some (16, false), .mv (.t 18)⟩, ⟨.some 20, .some (19, true), .fa 2 (.t 1)⟩, ⟨.some 21, .some (19, true), .ld .none (.t 20)⟩, ⟨.some 22, .some (19, true), .mv (.t 3)⟩, ⟨.some 23, .some (19, true), .bin .sub (.t 22) (.c (.int .i64 1))⟩, ⟨.some 24, .some (19, true), .ia 1 (.t 21) (.t 23)⟩, ⟨.some 25, .some (19, true), .ld .none (.t 24)⟩, ⟨.some 26, .some (19, true), .mv (.t 4)⟩, ⟨.some 27, .some (19, true), .call 119 .pure [.t 25, .t 26]⟩, ⟨.some 28, .some (19, true), .un .not (.t 27)⟩, ⟨.some 29, .some (16, false), .pick (.t 19) (.t 28) (.c (.bool false))⟩, ⟨.some 30, .none, .pick (.t 16) (.c (.bool true)) (.t 29)⟩]) (.cond (.t 30) (.seq (.rg false [⟨.some 2, .none, .mv (.c (.bool false))⟩]) .ret) .skip)))) (.rg false [⟨.some 31, .none, .bin .add (.t 8) (.c (.int .i64 1))⟩, ⟨.some 8, .none, .mv (.t 31)⟩]))))))) (.seq (.seq (.rg false [⟨.some 32, .none, .fa 0 (.t 1)⟩, ⟨.some 33, .none, .ld .none (.t 32)⟩, ⟨.some 34, .none, .call 117 .pure [.t 33]⟩, ⟨.some 35, .none, .un .not (.t 34)⟩, ⟨.some 36, .none, .mv (.t 35)⟩, ⟨.some 37, .some (36, false), .fa 1 (.t 1)⟩, ⟨.some 38, .some (36, false), .ld .none (.t 37)⟩, ⟨.some 39, .some (36, false), .bin .lss (.t 38) (.c (.int .i64 1))⟩, ⟨.some 40, .none, .pick (.t 36) (.c (.bool true)) (.t 39)⟩, ⟨.some 41, .none, .mv (.t 40)⟩, ⟨.some 42, .some (41, false), .fa 1 (.t 1)⟩, ⟨.some 43, .some (41, false), .ld .none (.t 42)⟩, ⟨.some 44, .some (41, false), .bin .gtr (.t 43) (.c (.int .i64 4))⟩, ⟨.some 45, .none, .pick (.t 41) (.c (.bool true)) (.t 44)⟩, ⟨.some 46, .none, .mv (.t 45)⟩, ⟨.some 47, .some (46, false), .fa 2 (.t 1)⟩, ⟨.some 48, .some (46, false), .ld .none (.t 47)⟩, ⟨.some 49, .some (46, false), .lenL (.t 48)⟩, ⟨.some 50, .some (46, false), .bin .lss (.t 49) (.c (.int .i64 1))⟩, ⟨.some 51, .none, .pick (.t 46) (.c (.bool true)) (.t 50)⟩, ⟨.some 52, .none, .mv (.t 51)⟩, ⟨.some 53, .some (52, false), .fa 2 (.t 1)⟩, ⟨.some 54, .some (52, false), .ld .none (.t 53)⟩, ⟨.some 55, .some (52, false), .lenL (.t 54)⟩, ⟨.some 56, .some (52, false), .bin .gtr (.t 55) (.c (.int .i64 8))⟩, ⟨.some 57, .none, .pick (.t 52) (.c (.bool true)) (.t 56)⟩]) (.cond (.t 57) (.seq (.rg false [⟨.some 2, .none, .mv (.c (.bool false))⟩]) .ret) .skip)) (.seq (.rg false [⟨.some 58, .none, .fa 1 (.t 1)⟩, ⟨.some 59, .none, .ld .none (.t 58)⟩, ⟨.some 60, .none, .bin .gtr (.t 59) (.c (.int .i64 2))⟩, ⟨.some 61, .none, .mv (.t 60)⟩, ⟨.some 62, .some (61, false), .fa 2 (.t 1)⟩, ⟨.some 63, .some (61, false), .ld .none (.t 62)⟩, ⟨.some 64, .some (61, false), .lenL (.t 63)⟩, ⟨.some 65, .some (61, false), .bin .eql (.t 64) (.c (.int .i64 1))⟩, ⟨.some 66, .none, .pick (.t 61) (.c (.bool true)) (.t 65)⟩, ⟨.some 2, .none, .mv (.t 66)⟩]) .ret)))))
def d341 : Def := (.code 2 [.tmp 4] (.seq (.rg false [⟨.some 3, .none, .box (.t 1)⟩, ⟨.some 4, .none, .mv (.c (.bool false))⟩]) (.seq (.rg false [⟨.some 9, .none, .mv (.t 0)⟩, ⟨.some 10, .none, .fa 0 (.t 3)⟩, ⟨.some 11, .none, .ld .none (.t 10)⟩, ⟨.some 12, .none, .call 200 .pure [.t 9, .t 11]⟩, ⟨.some 5, .none, .mv (.t 12)⟩]) (.seq (.rg false [⟨.some 6, .none, .mv (.c (.bool false))⟩]) (.seq (.seq (.rg false [⟨.some 13, .none, .fa 2 (.t 3)⟩, ⟨.some 14, .none, .ld .none (.t 13)⟩, ⟨.some 15, .none, .lenL (.t 14)⟩, ⟨.some 16, .none, .mv (.c (.int .i64 0))⟩]) (.block 0 (.loop (.seq (.rg false [⟨.some 17, .none, .bin .lss (.t 16) (.t 15)⟩]) (.seq (.cond (.t 17) .skip (.exit 0)) (.seq (.block 1 (.seq (.rg false [⟨.some 18, .none, .ia 1 (.t 14) (.t 16)⟩, ⟨.some 19, .none, .ld .none (.t 18)⟩, ⟨.some 8, .none, .mv (.t 19)⟩]) (.rg false [⟨.some 20, .none, .mv (.t 6)⟩, ⟨.some 21, .none, .mv (.t 20)⟩, ⟨.some 22, .some (21, false), .mv (.t 8)⟩, ⟨.some 23, .some (21, false), .mv (.t 5)⟩, ⟨.some 24, .some (21, false), .bin .eql (.t 22) (.t 23)⟩, ⟨.some 25, .none, .pick (.t 21) (.c (.bool true)) (.t 24)⟩, ⟨.some 6, .none, .mv (.t 25)⟩]))) (.rg false [⟨.some 26, .none, .bin .add (.t 16) (.c (.int .i64 1))⟩, ⟨.some 16, .none, .mv (.t 26)⟩]))))))) (.seq (.seq (.rg false [⟨.some 27, .none, .fa 1 (.t 3)⟩, ⟨.some 28, .none, .ld .none (.t 27)⟩, ⟨.some 29, .none, .bin .eql (.t 28) (.c (.int .i64 1))⟩, ⟨.some 30, .none, .mv (.t 29)⟩, ⟨.some 31, .some (30, false), .fa 1 (.t 3)⟩, ⟨.some 32, .some (30, false), .ld .none (.t 31)⟩, ⟨.some 33, .some (30, false), .bin .eql (.t 32) (.c (.int .i64 3))⟩, ⟨.some 34, .none, .pick (.t 30) (.c (.bool true)) (.t 33)⟩]) (.cond (.t 34) (.seq (.rg false [⟨.some 35, .none, .mv (.t 6)⟩, ⟨.some 4, .none, .mv (.t 35)⟩]) .ret) .skip)) (.seq (.rg false [⟨.some 36, .none, .mv (.t 6)⟩, ⟨.some 37, .none, .un .not (.t 36)⟩, ⟨.some 4, .none, .mv (.t 37)⟩]) .ret)))))))
def d339 : Def := (.code 2 [.tmp 4] (.seq (.rg false [⟨.some 4, .none, .mv (.c (.bool false))⟩]) (.seq (.seq (.rg false [⟨.some 7, .none, .mv (.t 1)⟩, ⟨.some 8, .none, .lenL (.t 7)⟩, ⟨.some 9, .none, .mv (.c (.int .i64 0))⟩]) (.block 0 (.loop (.seq (.rg false [⟨.some 10, .none, .bin .lss (.t 9) (.t 8)⟩]) (.seq (.cond (.t 10) .skip (.exit 0)) (.seq (.block 1 (.seq (.rg false [⟨.some 11, .none, .ia 3 (.t 7) (.t 9)⟩, ⟨.some 12, .none, .ld (.some 3) (.t 11)⟩, ⟨.some 6, .none, .box (.c (.agg #[.string ⟨#[]⟩, .int .i64 0, .slice .none 0 0]))⟩, ⟨.none, .none, .st 3 (.t 6) (.t 12)⟩]) (.seq (.rg false [⟨.some 13, .none, .mv (.t 0)⟩, ⟨.some 14, .none, .ld (.some 3) (.t 6)⟩, ⟨.some 15, .none, .call 341 .pure [.t 13, .t 14]⟩, ⟨.some 16, .none, .un .not (.t 15)⟩]) (.cond (.t 16) (.seq (.rg false [⟨.some 4, .none, .mv (.c (.bool false))⟩]) .ret) .skip)))) (.rg false [⟨.some 17, .none, .bin .add (.t 9) (.c (.int .i64 1))⟩, ⟨.some 9, .none, .mv (.t 17)⟩]))))))) (.seq (.rg false [⟨.some 4, .none, .mv (.c (.bool true))⟩]) .ret))))
def d343 : Def := (.code 1 [.tmp 2] (.seq (.rg false [⟨.some 2, .none, .mv (.c (.bool false))⟩]) (.seq (.seq (.rg false [⟨.some 3, .none, .mv (.c (.int .i64 1))⟩]) (.block 0 (.loop (.seq (.seq (.rg false [⟨.some 4, .none, .mv (.t 3)⟩, ⟨.some 5, .none, .mv (.t 0)⟩, ⟨.some 6, .none, .lenL (.t 5)⟩, ⟨.some 7, .none, .bin .lss (.t 4) (.t 6)⟩]) (.cond (.t 7) .skip (.exit 0))) (.seq (.block 1 (.seq (.rg true [⟨.some 10, .none, .mv (.t 0)⟩, ⟨.some 11, .none, .mv (.t 3)⟩, ⟨.some 12, .none, .bin .sub (.t 11) (.c (.int .i64 1))⟩, ⟨.some 13, .none, .ia 1 (.t 10) (.t 12)⟩, ⟨.some 14, .none, .ld .none (.t 13)⟩, ⟨.some 15, .none, .mv (.t 0)⟩, ⟨.some 16, .none, .mv (.t 3)⟩, ⟨.some 17, .none, .ia 1 (.t 15) (.t 16)⟩, ⟨.some 18, .none, .ld .none (.t 17)⟩, ⟨.some 19, .none, .call 119 .strict [.t 14, .t 18]⟩, ⟨.some 20, .none, .un .not (.t 19)⟩]) (.cond (.t 20) (.seq (.rg false [⟨.some 2, .none, .mv (.c (.bool false))⟩]) .ret) .skip))) (.rg false [⟨.some 8, .none, .mv (.t 3)⟩, ⟨.some 9, .none, .bin .add (.t 8) (.c (.int .i64 1))⟩, ⟨.some 3, .none, .mv (.t 9)⟩])))))) (.seq (.rg false [⟨.some 21, .none, .mv (.t 0)⟩, ⟨.some 22, .none, .lenL (.t 21)⟩, ⟨.some 23, .none, .bin .leq (.t 22) (.c (.int .i64 8))⟩, ⟨.some 2, .none, .mv (.t 23)⟩]) .ret))))
def d344 : Def := (.code 2 [.tmp 4] (.seq (.rg false [⟨.some 4, .none, .mv (.c (.bool false))⟩]) (.seq (.rg false [⟨.some 5, .none, .mv (.t 0)⟩, ⟨.some 6, .none, .mv (.t 1)⟩, ⟨.some 7, .none, .bin .geq (.t 5) (.t 6)⟩, ⟨.some 8, .none, .mv (.t 7)⟩, ⟨.some 9, .some (8, true), .mv (.t 0)⟩, ⟨.some 10, .some (8, true), .bin .leq (.t 9) (.c (.int .i64 1099511627776))⟩, ⟨.some 11, .none, .pick (.t 8) (.t 10) (.c (.bool false))⟩, ⟨.some 4, .none, .mv (.t 11)⟩]) .ret)))
def d340 : Def := (.code 1 [.tmp 2] (.seq (.rg false [⟨.some 1, .none, .box (.t 0)⟩, ⟨.some 2, .none, .mv (.c (.bool false))⟩]) (.seq (.seq (.rg false [⟨.some 9, .none, .fa 1 (.t 1)⟩, ⟨.some 10, .none, .ld .none (.t 9)⟩, ⟨.some 11, .none, .lenL (.t 10)⟩, ⟨.some 12, .none, .mv (.c (.int .i64 0))⟩]) (.block 0 (.loop (.seq (.rg false [⟨.some 13, .none, .bin .lss (.t 12) (.t 11)⟩]) (.seq (.cond (.t 13) .skip (.exit 0)) (.seq (.block 1 (.seq (.rg false [⟨.some 14, .none, .ia 3 (.t 10) (.t 12)⟩, ⟨.some 15, .none, .ld (.some 3) (.t 14)⟩, ⟨.some 4, .none, .box (.c (.agg #[.string ⟨#[]⟩, .int .i64 0, .slice .none 0 0]))⟩, ⟨.none, .none, .st 3 (.t 4) (.t 15)⟩]) (.seq (.rg false [⟨.some 16, .none, .ld (.some 3) (.t 4)⟩, ⟨.some 17, .none, .call 342 .pure [.t 16]⟩, ⟨.some 18, .none, .un .not (.t 17)⟩]) (.cond (.t 18) (.seq (.rg false [⟨.some 2, .none, .mv (.c (.bool false))⟩]) .ret) .skip)))) (.rg false [⟨.some 19, .none, .bin .add (.t 12) (.c (.int .i64 1))⟩, ⟨.some 12, .none, .mv (.t 19)⟩]))))))) (.seq (.seq (.rg false [⟨.some 20, .none, .fa 2 (.t 1)⟩, ⟨.some 21, .none, .ld .none (.t 20)⟩, ⟨.some 22, .none, .lenL (.t 21)⟩, ⟨.some 23, .none, .mv (.c (.int .i64 0))⟩]) (.block 2 (.loop (.seq (.rg false [⟨.some 24, .none, .bin .lss (.t 23) (.t 22)⟩]) (.seq (.cond (.t 24) .skip (.exit 2)) (.seq (.block 3 (.seq (.rg false [⟨.some 25, .none, .ia 1 (.t 21) (.t 23)⟩, ⟨.some 26, .none, .ld .none (.t 25)⟩, ⟨.some 6, .none, .mv (.t 26)⟩]) (.seq (.rg false [⟨.some 27, .none, .mv (.t 6)⟩, ⟨.some 28, .none, .call 117 .pure [.t 27]⟩, ⟨.some 29, .none, .un .not (.t 28)⟩]) (.cond (.t 29) (.seq (.rg false [⟨.some 2, .none, .mv (.c (.bool false))⟩]) .ret) .skip)))) (.rg false [⟨.some 30, .none, .bin .add (.t 23) (.c (.int .i64 1))⟩, ⟨.some 23, .none, .mv (.t 30)⟩]))))))) (.seq (.seq (.rg false [⟨.some 31, .none, .fa 6 (.t 1)⟩, ⟨.some 32, .none, .ld .none (.t 31)⟩, ⟨.some 33, .none, .lenL (.t 32)⟩, ⟨.some 34, .none, .mv (.c (.int .i64 0))⟩]) (.block 4 (.loop (.seq (.rg false [⟨.some 35, .none, .bin .lss (.t 34) (.t 33)⟩]) (.seq (.cond (.t 35) .skip (.exit 4)) (.seq (.block 5 (.seq (.rg false [⟨.some 36, .none, .ia 1 (.t 32) (.t 34)⟩, ⟨.some 37, .none, .ld .none (.t 36)⟩, ⟨.some 8, .none, .mv (.t 37)⟩]) (.seq (.rg false [⟨.some 38, .none, .mv (.t 8)⟩, ⟨.some 39, .none, .call 30 .pure [.t 38]⟩, ⟨.some 40, .none, .un .not (.t 39)⟩]) (.cond (.t 40) (.seq (.rg false [⟨.some 2, .none, .mv (.c (.bool false))⟩]) .ret) .skip)))) (.rg false [⟨.some 41, .none, .bin .add (.t 34) (.c (.int .i64 1))⟩, ⟨.some 34, .none, .mv (.t 41)⟩]))))))) (.seq (.rg false [⟨.some 42, .none, .fa 0 (.t 1)⟩, ⟨.some 43, .none, .ld .none (.t 42)⟩, ⟨.some 44, .none, .call 30 .pure [.t 43]⟩, ⟨.some 45, .none, .mv (.t 44)⟩, ⟨.some 46, .some (45, true), .fa 1 (.t 1)⟩, ⟨.some 47, .some (45, true), .ld .none (.t 46)⟩, ⟨.some 48, .some (45, true), .lenL (.t 47)⟩, ⟨.some 49, .some (45, true), .bin .leq (.t 48) (.c (.int .i64 8))⟩, ⟨.some 50, .none, .pick (.t 45) (.t 49) (.c (.bool false))⟩, ⟨.some 51, .none, .mv (.t 50)⟩, ⟨.some 52, .some (51, true), .fa 2 (.t 1)⟩, ⟨.some 53, .some (51, true), .ld .none (.t 52)⟩, ⟨.some 54, .some (51, true), .call 343 .pure [.t 53]⟩, ⟨.some 55, .none, .pick (.t 51) (.t 54) (.c (.bool false))⟩, ⟨.some 56, .none, .mv (.t 55)⟩, ⟨.some 57, .some (56, true), .fa 6 (.t 1)⟩, ⟨.some 58, .some (56, true), .ld .none (.t 57)⟩, ⟨.some 59, .some (56, true), .call 343 .pure [.t 58]⟩, ⟨.some 60, .none, .pick (.t 56) (.t 59) (.c (.bool false))⟩, ⟨.some 61, .none, .mv (.t 60)⟩, ⟨.some 62, .some (61, true), .fa 3 (.t 1)⟩, ⟨.some 63, .some (61, true), .ld .none (.t 62)⟩, ⟨.some 64, .some (61, true), .call 344 .pure [.t 63, .c (.int .i64 0)]⟩, ⟨.some 65, .none, .pick (.t 61) (.t 64) (.c (.bool false))⟩, ⟨.some 66, .none, .mv (.t 65)⟩, ⟨.some 67, .some (66, true), .fa 4 (.t 1)⟩, ⟨.some 68, .some (66, true), .ld .none (.t 67)⟩, ⟨.some 69, .some (66, true), .call 344 .pure [.t 68, .c (.int .i64 1)]⟩, ⟨.some 70, .none, .pick (.t 66) (.t 69) (.c (.bool false))⟩, ⟨.some 71, .none, .mv (.t 70)⟩, ⟨.some 72, .some (71, true), .fa 5 (.t 1)⟩, ⟨.some 73, .some (71, true), .ld .none (.t 72)⟩, ⟨.some 74, .some (71, true), .call 344 .pure [.t 73, .c (.int .i64 1)]⟩, ⟨.some 75, .none, .pick (.t 71) (.t 74) (.c (.bool false))⟩, ⟨.some 76, .none, .mv (.t 75)⟩, ⟨.some 77, .some (76, true), .fa 8 (.t 1)⟩, ⟨.some 78, .some (76, true), .ld .none (.t 77)⟩, ⟨.some 79, .some (76, true), .lenL (.t 78)⟩, ⟨.some 80, .some (76, true), .bin .leq (.t 79) (.c (.int .i64 16))⟩, ⟨.some 81, .none, .pick (.t 76) (.t 80) (.c (.bool false))⟩, ⟨.some 2, .none, .mv (.t 81)⟩]) .ret))))))
def d335 : Def := (.code 2 [.tmp 4] (.seq (.rg false [⟨.some 2, .none, .box (.t 0)⟩, ⟨.some 4, .none, .mv (.c (.bool false))⟩]) (.seq (.seq (.rg false [⟨.some 7, .none, .mv (.t 1)⟩, ⟨.some 8, .none, .bin .eql (.t 7) (.c (.int .i64 0))⟩, ⟨.some 9, .none, .mv (.t 8)⟩, ⟨.some 10, .some (9, false), .ld (.some 9) (.t 2)⟩, ⟨.some 11, .some (9, false), .call 340 .pure [.t 10]⟩, ⟨.some 12, .some (9, false), .un .not (.t 11)⟩, ⟨.some 13, .none, .pick (.t 9) (.c (.bool true)) (.t 12)⟩]) (.cond (.t 13) (.seq (.rg false [⟨.some 4, .none, .mv (.c (.bool false))⟩]) .ret) .skip)) (.seq (.seq (.rg false [⟨.some 14, .none, .fa 8 (.t 2)⟩, ⟨.some 15, .none, .ld .none (.t 14)⟩, ⟨.some 16, .none, .lenL (.t 15)⟩, ⟨.some 17, .none, .mv (.c (.int .i64 0))⟩]) (.block 0 (.loop (.seq (.rg false [⟨.some 18, .none, .bin .lss (.t 17) (.t 16)⟩]) (.seq (.cond (.t 18) .skip (.exit 0)) (.seq (.block 1 (.seq (.rg false [⟨.some 19, .none, .ia 9 (.t 15) (.t 17)⟩, ⟨.some 20, .none, .ld (.some 9) (.t 19)⟩, ⟨.some 6, .none, .box (.c (.agg #[.string ⟨#[]⟩, .slice .none 0 0, .slice .none 0 0, .int .i64 0, .int .i64 0, .int .i64 0, .slice .none 0 0, .bool false, .slice .none 0 0]))⟩, ⟨.none, .none, .st 9 (.t 6) (.t 20)⟩]) (.seq (.rg false [⟨.some 21, .none, .ld (.some 9) (.t 6)⟩, ⟨.some 22, .none, .mv (.t 1)⟩, ⟨.some 23, .none, .bin .sub (.t 22) (.c (.int .i64 1))⟩, ⟨.some 24, .none, .call 335 .pure [.t 21, .t 23]⟩, ⟨.some 25, .none, .un .not (.t 24)⟩]) (.cond (.t 25) (.seq (.rg false [⟨.some 4, .none, .mv (.c (.bool false))⟩]) .ret) .skip)))) (.rg false [⟨.some 26, .none, .bin .add (.t 17) (.c (.int .i64 1))⟩, ⟨.some 17, .none, .mv (.t 26)⟩]))))))) (.seq (.rg false [⟨.some 4, .none, .mv (.c (.bool true))⟩]) .ret)))))
def d331 : Def := (.code 1 [.tmp 2] (.seq (.rg false [⟨.some 1, .none, .box (.t 0)⟩, ⟨.some 2, .none, .mv (.c (.bool false))⟩]) (.seq (.rg false [⟨.some 3, .none, .ld (.some 9) (.t 1)⟩, ⟨.some 4, .none, .call 335 .pure [.t 3, .c (.int .i64 4)]⟩, ⟨.some 2, .none, .mv (.t 4)⟩]) .ret)))
def lr0 : List (Nat × Def) := [(200, d200)]
def lkj : List (Nat × Def) := [(345, d345), (342, d342), (341, d341), (339, d339), (343, d343), (344, d344), (340, d340), (335, d335), (331, d331)]
structure Mm9 (env : Nat → Option Def) : Prop where
  l : Has ll env
  l0 : Has ll0 env
  r : Has lr0 env
  d : Has lkj env
theorem oddM_nat : ∀ n : Fin 256, oddM ((n.val : Nat) : Int) = ((((((!(((decide (((n.val : Nat) : Int) ≥ 97) && decide (((n.val : Nat) : Int) ≤ 122)) || (decide (((n.val : Nat) : Int) ≥ 65) && decide (((n.val : Nat) : Int) ≤ 90))) || (decide (((n.val : Nat) : Int) ≥ 48) && decide (((n.val : Nat) : Int) ≤ 57)))) && (((n.val : Nat) : Int) != 95)) && (((n.val : Nat) : Int) != 45)) && (((n.val : Nat) : Int) != 46)) && (((n.val : Nat) : Int) != 47)) && (((n.val : Nat) : Int) != 58)) := by decide +kernel
theorem oddM_u8 (u : UInt8) : oddM (u.toNat : Int) = ((((((!(((decide ((u.toNat : Int) ≥ 97) && decide ((u.toNat : Int) ≤ 122)) || (decide ((u.toNat : Int) ≥ 65) && decide ((u.toNat : Int) ≤ 90))) || (decide ((u.toNat : Int) ≥ 48) && decide ((u.toNat : Int) ≤ 57)))) && ((u.toNat : Int) != 95)) && ((u.toNat : Int) != 45)) && ((u.toNat : Int) != 46)) && ((u.toNat : Int) != 47)) && ((u.toNat : Int) != 58)) := oddM_nat ⟨u.toNat, u.toNat_lt⟩
section
variable {env : Nat → Option Def} {fr : Fr} {σ σ' σ'' : St} {K : Fr → St → Prop} {Q : X → Fr → St → Prop} {p : PV} {bs : List UInt8}
theorem a200r (R : Has lr0 env) {l : List Lab} {n : ByteArray} (hn : l.length ≤ 9223372036854775807) : AV env 200 [.sl (labs l), .sc (.string n)] = some (.sc (.string (getB l n))) := by
  refine AV_wp (R (200, d200) (by simp [lr0])) rfl ?_
  have hll := labs_len l
  (repeat' first
    | refine w_seq ?_ | refine w_rg ?_ | refine wo_nil ?_ | refine g_skU ?_ | refine g_skT ?_ | refine g_skF ?_
    | ((first | apply s_plain | apply s_void | apply s_guard | apply g_goT | apply g_goF); · simp only [go_sem, Nat.reduceEqDiff, Nat.reduceAdd, Nat.reduceLeDiff, hll]; (first | done | rfl))
    | ((first | apply g_T | apply g_F | apply g_gT | apply g_gF); · intro q1_; (first | intro q2_ | have q2_ := q1_); simp only [go_sem, Nat.reduceEqDiff, Nat.reduceAdd, Nat.reduceLeDiff, hll, q1_, q2_]; (first | done | rfl))
    | fail
    )
  refine w_block (w_range l.length hn (fun i fr σ => fr 1 = .sc (.string n) ∧ fr 7 = .sl (labs l) ∧ ∀ j, j < i → isN l n j = false) (by decide) ?_ ?_ ?_ _ _ ?_ ?_ ?_)
  · rintro i fr σ v ⟨h0, h1, h2⟩
    refine ⟨⟨?_, ?_, h2⟩, ⟨?_, ?_, h2⟩, ⟨?_, ?_, h2⟩⟩ <;> simp only [go_sem, Nat.reduceEqDiff, Nat.reduceAdd, Nat.reduceLeDiff, h0, h1]
  · rintro i fr σ hi ⟨f1, f7, h3⟩ hti htn
    have hx := List.getElem?_eq_getElem hi
    have hy := labs_at hx
    have hni : nth l i = l[i] := by unfold nth; rw [hx]; rfl
    have e1 : (0 : Int) ≤ (i : Int) ∧ (i : Int) < (l.length : Int) := by omega
    refine w_block ?_
    simp only [lab] at hy
    (repeat' first
    | refine w_seq ?_ | refine w_rg ?_ | refine wo_nil ?_ | refine g_skU ?_ | refine g_skT ?_ | refine g_skF ?_
    | ((first | apply s_plain | apply s_void | apply s_guard | apply g_goT | apply g_goF); · simp only [go_sem, Nat.reduceEqDiff, Nat.reduceAdd, Nat.reduceLeDiff, f1, f7, hti, e1, hll, Int.toNat_natCast, hy, List.modify_zero_cons]; (first | done | rfl))
    | ((first | apply g_T | apply g_F | apply g_gT | apply g_gF); · intro q1_; (first | intro q2_ | have q2_ := q1_); simp only [go_sem, Nat.reduceEqDiff, Nat.reduceAdd, Nat.reduceLeDiff, f1, f7, hti, e1, hll, Int.toNat_natCast, hy, List.modify_zero_cons, q1_, q2_]; (first | done | rfl))
    | fail
    )
    have hbad : isN l n i = (l[i].1.toList == n.toList) := by unfold isN; rw [hni]
    cases hpi : isN l n i with
    | true =>
      have hq := hpi
      rw [hbad] at hpi
      refine w_condT (by simp only [go_sem, Nat.reduceEqDiff, Nat.reduceAdd, Nat.reduceLeDiff, hpi]) ?_
      (repeat' first
    | refine w_seq ?_ | refine w_rg ?_ | refine wo_nil ?_ | refine g_skU ?_ | refine g_skT ?_ | refine g_skF ?_
    | ((first | apply s_plain | apply s_void | apply s_guard | apply g_goT | apply g_goF); · simp only [go_sem, Nat.reduceEqDiff, Nat.reduceAdd, Nat.reduceLeDiff]; (first | done | rfl))
    | ((first | apply g_T | apply g_F | apply g_gT | apply g_gF); · intro q1_; (first | intro q2_ | have q2_ := q1_); simp only [go_sem, Nat.reduceEqDiff, Nat.reduceAdd, Nat.reduceLeDiff, q1_, q2_]; (first | done | rfl))
    | (apply w_condX; · simp only [go_sem, Nat.reduceEqDiff, Nat.reduceAdd, Nat.reduceLeDiff]; (first | done | rfl)); (first | refine wcd_T ?_ | refine wcd_F ?_)
    | refine w_skip ?_ | refine w_exit ?_ | refine w_ret ?_
    | fail
    )
      have hf : getB l n = l[i].2 := by
        unfold getB
        rw [found_hit hi h3 hq, if_neg (by omega)]
        simp only [Int.toNat_natCast, hni]
      exact ⟨.inr rfl, by simp only [go_sem, Nat.reduceEqDiff, Nat.reduceAdd, Nat.reduceLeDiff, retOf, resOf, hf]⟩
    | false =>
      have hq := hpi
      rw [hbad] at hpi
      refine w_condF (by simp only [go_sem, Nat.reduceEqDiff, Nat.reduceAdd, Nat.reduceLeDiff, hpi]) ?_
      (repeat' first
    | refine w_seq ?_ | refine w_rg ?_ | refine wo_nil ?_ | refine g_skU ?_ | refine g_skT ?_ | refine g_skF ?_
    | ((first | apply s_plain | apply s_void | apply s_guard | apply g_goT | apply g_goF); · simp only [go_sem, Nat.reduceEqDiff, Nat.reduceAdd, Nat.reduceLeDiff]; (first | done | rfl))
    | ((first | apply g_T | apply g_F | apply g_gT | apply g_gF); · intro q1_; (first | intro q2_ | have q2_ := q1_); simp only [go_sem, Nat.reduceEqDiff, Nat.reduceAdd, Nat.reduceLeDiff, q1_, q2_]; (first | done | rfl))
    | (apply w_condX; · simp only [go_sem, Nat.reduceEqDiff, Nat.reduceAdd, Nat.reduceLeDiff]; (first | done | rfl)); (first | refine wcd_T ?_ | refine wcd_F ?_)
    | refine w_skip ?_ | refine w_exit ?_ | refine w_ret ?_
    | fail
    )
      refine ⟨⟨?_, ?_, fun j hj => ?_⟩, ?_, ?_⟩
      · simp only [go_sem, Nat.reduceEqDiff, Nat.reduceAdd, Nat.reduceLeDiff, f1]
      · simp only [go_sem, Nat.reduceEqDiff, Nat.reduceAdd, Nat.reduceLeDiff, f7]
      · by_cases hji : j = i
        · rw [hji]; exact hq
        · exact h3 j (by omega)
      · simp only [go_sem, Nat.reduceEqDiff, Nat.reduceAdd, Nat.reduceLeDiff, hti]
      · simp only [go_sem, Nat.reduceEqDiff, Nat.reduceAdd, Nat.reduceLeDiff, htn]
  · rintro fr σ ⟨f1, f7, h3⟩
    try simp only [if_true]
    (repeat' first
    | refine w_seq ?_ | refine w_rg ?_ | refine wo_nil ?_ | refine g_skU ?_ | refine g_skT ?_ | refine g_skF ?_
    | ((first | apply s_plain | apply s_void | apply s_guard | apply g_goT | apply g_goF); · simp only [go_sem, Nat.reduceEqDiff, Nat.reduceAdd, Nat.reduceLeDiff]; (first | done | rfl))
    | ((first | apply g_T | apply g_F | apply g_gT | apply g_gF); · intro q1_; (first | intro q2_ | have q2_ := q1_); simp only [go_sem, Nat.reduceEqDiff, Nat.reduceAdd, Nat.reduceLeDiff, q1_, q2_]; (first | done | rfl))
    | (apply w_condX; · simp only [go_sem, Nat.reduceEqDiff, Nat.reduceAdd, Nat.reduceLeDiff]; (first | done | rfl)); (first | refine wcd_T ?_ | refine wcd_F ?_)
    | refine w_skip ?_ | refine w_exit ?_ | refine w_ret ?_
    | fail
    )
    have hf : getB l n = ⟨#[]⟩ := by unfold getB; rw [found_none h3]; rfl
    exact ⟨.inr rfl, by simp only [go_sem, Nat.reduceEqDiff, Nat.reduceAdd, Nat.reduceLeDiff, retOf, resOf, hf]⟩
  · refine ⟨?_, ?_, fun j hj => by omega⟩ <;> simp only [go_sem, Nat.reduceEqDiff, Nat.reduceAdd, Nat.reduceLeDiff]
  · simp only [go_sem, Nat.reduceEqDiff, Nat.reduceAdd, Nat.reduceLeDiff]
  · simp only [go_sem, Nat.reduceEqDiff, Nat.reduceAdd, Nat.reduceLeDiff, hll]
theorem a345 (D : Mm9 env) {s : ByteArray} (hn : s.size ≤ 9223372036854775807) : AV env 345 [.sc (.string s)] = some (.sc (.bool (wordM s))) := by
  refine AV_wp (D.d (345, d345) (by simp [lkj])) rfl ?_
  (repeat' first
    | refine w_seq ?_ | refine w_rg ?_ | refine wo_nil ?_ | refine g_skU ?_ | refine g_skT ?_ | refine g_skF ?_
    | ((first | apply s_plain | apply s_void | apply s_guard | apply g_goT | apply g_goF); · simp only [go_sem, Nat.reduceEqDiff, Nat.reduceAdd, Nat.reduceLeDiff]; (first | done | rfl))
    | ((first | apply g_T | apply g_F | apply g_gT | apply g_gF); · intro q1_; (first | intro q2_ | have q2_ := q1_); simp only [go_sem, Nat.reduceEqDiff, Nat.reduceAdd, Nat.reduceLeDiff, q1_, q2_]; (first | done | rfl))
    | fail
    )
  refine w_block (w_count s.size (fun i fr σ => fr 0 = .sc (.string s) ∧ fr 3 = .sc (.int .i64 i) ∧ ∀ j, j < i → oddM (byteAt s j) = false) ?_ _ _ ?_)
  · rintro i fr σ hi ⟨h0, h3, h2⟩
    by_cases hlt : i < s.size
    · have hd : decide ((i : Int) < (s.size : Int)) = true := by simp; omega
      obtain ⟨u, hu, hb⟩ := byte_get hlt
      have e1 : (0 : Int) ≤ (i : Int) := by omega
      have e2 := wrap_succ hlt hn
      (repeat' first
    | refine w_seq ?_ | refine w_rg ?_ | refine wo_nil ?_ | refine g_skU ?_ | refine g_skT ?_ | refine g_skF ?_
    | ((first | apply s_plain | apply s_void | apply s_guard | apply g_goT | apply g_goF); · simp only [go_sem, Nat.reduceEqDiff, Nat.reduceAdd, Nat.reduceLeDiff, h0, h3, hd]; (first | done | rfl))
    | ((first | apply g_T | apply g_F | apply g_gT | apply g_gF); · intro q1_; (first | intro q2_ | have q2_ := q1_); simp only [go_sem, Nat.reduceEqDiff, Nat.reduceAdd, Nat.reduceLeDiff, h0, h3, hd, q1_, q2_]; (first | done | rfl))
    | (apply w_condX; · simp only [go_sem, Nat.reduceEqDiff, Nat.reduceAdd, Nat.reduceLeDiff, h0, h3, hd]; (first | done | rfl)); (first | refine wcd_T ?_ | refine wcd_F ?_)
    | refine w_skip ?_ | refine w_exit ?_ | refine w_ret ?_
    | fail
    )
      refine w_block ?_
      (repeat' first
    | refine w_seq ?_ | refine w_rg ?_ | refine wo_nil ?_ | refine g_skU ?_ | refine g_skT ?_ | refine g_skF ?_
    | ((first | apply s_plain | apply s_void | apply s_guard | apply g_goT | apply g_goF); · simp only [go_sem, Nat.reduceEqDiff, Nat.reduceAdd, Nat.reduceLeDiff, h0, h3, e1, Int.toNat_natCast, hu]; (first | done | rfl))
    | ((first | apply g_T | apply g_F | apply g_gT | apply g_gF); · intro q1_; (first | intro q2_ | have q2_ := q1_); simp only [go_sem, Nat.reduceEqDiff, Nat.reduceAdd, Nat.reduceLeDiff, h0, h3, e1, Int.toNat_natCast, hu, q1_, q2_]; (first | done | rfl))
    | fail
    )
      have hbad := oddM_u8 u
      rw [show oddM (u.toNat : Int) = oddM (byteAt s i) by rw [hb]] at hbad
      cases hpi : oddM (byteAt s i) with
      | true =>
        refine w_condT (by simp only [go_sem, Nat.reduceEqDiff, Nat.reduceAdd, Nat.reduceLeDiff]; rw [hbad] at hpi; exact congrArg (fun b => PV.sc (.bool b)) hpi) ?_
        (repeat' first
    | refine w_seq ?_ | refine w_rg ?_ | refine wo_nil ?_ | refine g_skU ?_ | refine g_skT ?_ | refine g_skF ?_
    | ((first | apply s_plain | apply s_void | apply s_guard | apply g_goT | apply g_goF); · simp only [go_sem, Nat.reduceEqDiff, Nat.reduceAdd, Nat.reduceLeDiff]; (first | done | rfl))
    | ((first | apply g_T | apply g_F | apply g_gT | apply g_gF); · intro q1_; (first | intro q2_ | have q2_ := q1_); simp only [go_sem, Nat.reduceEqDiff, Nat.reduceAdd, Nat.reduceLeDiff, q1_, q2_]; (first | done | rfl))
    | (apply w_condX; · simp only [go_sem, Nat.reduceEqDiff, Nat.reduceAdd, Nat.reduceLeDiff]; (first | done | rfl)); (first | refine wcd_T ?_ | refine wcd_F ?_)
    | refine w_skip ?_ | refine w_exit ?_ | refine w_ret ?_
    | fail
    )
        have hf := found_hit hlt h2 hpi
        have hw : wordM s = false := by unfold wordM hasB; rw [hf]; simp
        exact ⟨by first | exact .inr rfl | exact .inr trivial | exact .inl rfl, by simp only [go_sem, Nat.reduceEqDiff, Nat.reduceAdd, Nat.reduceLeDiff, retOf, resOf, hw]; first | done | rfl⟩
      | false =>
        refine w_condF (by simp only [go_sem, Nat.reduceEqDiff, Nat.reduceAdd, Nat.reduceLeDiff]; rw [hbad] at hpi; exact congrArg (fun b => PV.sc (.bool b)) hpi) ?_
        (repeat' first
    | refine w_seq ?_ | refine w_rg ?_ | refine wo_nil ?_ | refine g_skU ?_ | refine g_skT ?_ | refine g_skF ?_
    | ((first | apply s_plain | apply s_void | apply s_guard | apply g_goT | apply g_goF); · simp only [go_sem, Nat.reduceEqDiff, Nat.reduceAdd, Nat.reduceLeDiff, h3, e2]; (first | done | rfl))
    | ((first | apply g_T | apply g_F | apply g_gT | apply g_gF); · intro q1_; (first | intro q2_ | have q2_ := q1_); simp only [go_sem, Nat.reduceEqDiff, Nat.reduceAdd, Nat.reduceLeDiff, h3, e2, q1_, q2_]; (first | done | rfl))
    | (apply w_condX; · simp only [go_sem, Nat.reduceEqDiff, Nat.reduceAdd, Nat.reduceLeDiff, h3, e2]; (first | done | rfl)); (first | refine wcd_T ?_ | refine wcd_F ?_)
    | refine w_skip ?_ | refine w_exit ?_ | refine w_ret ?_
    | fail
    )
        refine ⟨hlt, ?_, ?_, fun j hj => ?_⟩
        · simp only [go_sem, Nat.reduceEqDiff, Nat.reduceAdd, Nat.reduceLeDiff, h0]
        · simp only [go_sem, Nat.reduceEqDiff, Nat.reduceAdd, Nat.reduceLeDiff]
        · by_cases hji : j = i
          · rw [hji]; exact hpi
          · exact h2 j (by omega)
    · have hd : decide ((i : Int) < (s.size : Int)) = false := by simp; omega
      have hin : i = s.size := by omega
      subst hin
      (repeat' first
    | refine w_seq ?_ | refine w_rg ?_ | refine wo_nil ?_ | refine g_skU ?_ | refine g_skT ?_ | refine g_skF ?_
    | ((first | apply s_plain | apply s_void | apply s_guard | apply g_goT | apply g_goF); · simp only [go_sem, Nat.reduceEqDiff, Nat.reduceAdd, Nat.reduceLeDiff, h0, h3, hd]; (first | done | rfl))
    | ((first | apply g_T | apply g_F | apply g_gT | apply g_gF); · intro q1_; (first | intro q2_ | have q2_ := q1_); simp only [go_sem, Nat.reduceEqDiff, Nat.reduceAdd, Nat.reduceLeDiff, h0, h3, hd, q1_, q2_]; (first | done | rfl))
    | (apply w_condX; · simp only [go_sem, Nat.reduceEqDiff, Nat.reduceAdd, Nat.reduceLeDiff, h0, h3, hd]; (first | done | rfl)); (first | refine wcd_T ?_ | refine wcd_F ?_)
    | refine w_skip ?_ | refine w_exit ?_ | refine w_ret ?_
    | fail
    )
      try simp only [if_true]
      (repeat' first
    | refine w_seq ?_ | refine w_rg ?_ | refine wo_nil ?_ | refine g_skU ?_ | refine g_skT ?_ | refine g_skF ?_
    | ((first | apply s_plain | apply s_void | apply s_guard | apply g_goT | apply g_goF); · simp only [go_sem, Nat.reduceEqDiff, Nat.reduceAdd, Nat.reduceLeDiff, h0]; (first | done | rfl))
    | ((first | apply g_T | apply g_F | apply g_gT | apply g_gF); · intro q1_; (first | intro q2_ | have q2_ := q1_); simp only [go_sem, Nat.reduceEqDiff, Nat.reduceAdd, Nat.reduceLeDiff, h0, q1_, q2_]; (first | done | rfl))
    | (apply w_condX; · simp only [go_sem, Nat.reduceEqDiff, Nat.reduceAdd, Nat.reduceLeDiff, h0]; (first | done | rfl)); (first | refine wcd_T ?_ | refine wcd_F ?_)
    | refine w_skip ?_ | refine w_exit ?_ | refine w_ret ?_
    | fail
    )
      have hw : wordM s = decide ((s.size : Int) ≤ 64) := by unfold wordM hasB; rw [found_none h2]; simp
      exact ⟨by first | exact .inr rfl | exact .inr trivial | exact .inl rfl, by simp only [go_sem, Nat.reduceEqDiff, Nat.reduceAdd, Nat.reduceLeDiff, retOf, resOf, hw]; first | done | rfl⟩
  · refine ⟨?_, ?_, fun j hj => by omega⟩
    · simp only [go_sem, Nat.reduceEqDiff, Nat.reduceAdd, Nat.reduceLeDiff]
    · simp only [go_sem, Nat.reduceEqDiff, Nat.reduceAdd, Nat.reduceLeDiff]; (first | done | rfl)
theorem a342 (D : Mm9 env) {m : Mt} (hm : m.Held) : AV env 342 [mt m] = some (.sc (.bool (rightM m))) := by
  obtain ⟨n, how, ws⟩ := m
  obtain ⟨hn, hw, hws⟩ := hm
  simp only at hn hw hws
  have hll := strs_len ws
  have h117 := a117 D.l0 (s := n) hn
  have hmt : mt ⟨n, how, ws⟩ = .agg [.sc (.string n), .sc (.int .i64 how), .sl (strs ws)] := rfl
  rw [hmt]
  refine AV_wp (D.d (342, d342) (by simp [lkj])) rfl ?_
  (repeat' first
    | refine w_seq ?_ | refine w_rg ?_ | refine wo_nil ?_ | refine g_skU ?_ | refine g_skT ?_ | refine g_skF ?_
    | ((first | apply s_plain | apply s_void | apply s_guard | apply g_goT | apply g_goF); · simp only [go_sem, Nat.reduceEqDiff, Nat.reduceAdd, Nat.reduceLeDiff, hll]; (first | done | rfl))
    | ((first | apply g_T | apply g_F | apply g_gT | apply g_gF); · intro q1_; (first | intro q2_ | have q2_ := q1_); simp only [go_sem, Nat.reduceEqDiff, Nat.reduceAdd, Nat.reduceLeDiff, hll, q1_, q2_]; (first | done | rfl))
    | fail
    )
  refine w_block (w_rangeF ws.length hw (fun i fr σ => σ.m 2000001 0 = some ⟨3, [.agg [.sc (.string n), .sc (.int .i64 how), .sl (strs ws)]], true, true⟩ ∧ ∀ j, j < i → badW wordM ws j = false) ⟨by decide, rfl, rfl⟩ (fun _ _ _ _ h => ⟨h, h, h⟩) ⟨by simp only [go_sem, Nat.reduceEqDiff, Nat.reduceAdd, Nat.reduceLeDiff], fun j hj => by omega⟩ (by simp only [go_sem, Nat.reduceEqDiff, Nat.reduceAdd, Nat.reduceLeDiff]; first | done | rfl) (by simp only [go_sem, Nat.reduceEqDiff, Nat.reduceAdd, Nat.reduceLeDiff, hll]; first | done | rfl) ?_ ?_)
  · rintro i fr2 σ2 hi ⟨hm1, h3⟩ hti hfr
    have f0_1 := hfr 1 rfl; have f0_6 := hfr 6 rfl; have f0_7 := hfr 7 rfl; try (simp only [go_sem, Nat.reduceEqDiff, Nat.reduceAdd, Nat.reduceLeDiff] at f0_1); try (simp only [go_sem, Nat.reduceEqDiff, Nat.reduceAdd, Nat.reduceLeDiff] at f0_6); try (simp only [go_sem, Nat.reduceEqDiff, Nat.reduceAdd, Nat.reduceLeDiff] at f0_7)
    have hx := List.getElem?_eq_getElem hi
    have hy := strs_at hx
    have hni := nthS_eq hi
    have e1 : (0 : Int) ≤ (i : Int) ∧ (i : Int) < (ws.length : Int) := by omega
    have hwd := a345 D (hws _ (List.getElem_mem hi))
    refine w_block ?_
    (repeat' first
    | refine w_seq ?_ | refine w_rg ?_ | refine wo_nil ?_ | refine g_skU ?_ | refine g_skT ?_ | refine g_skF ?_
    | ((first | apply s_plain | apply s_void | apply s_guard | apply g_goT | apply g_goF); · simp only [go_sem, Nat.reduceEqDiff, Nat.reduceAdd, Nat.reduceLeDiff, f0_1, f0_6, f0_7, hti, e1, hll, Int.toNat_natCast, hy, hwd, hm1]; (first | done | rfl))
    | ((first | apply g_T | apply g_F | apply g_gT | apply g_gF); · intro q1_; (first | intro q2_ | have q2_ := q1_); simp only [go_sem, Nat.reduceEqDiff, Nat.reduceAdd, Nat.reduceLeDiff, f0_1, f0_6, f0_7, hti, e1, hll, Int.toNat_natCast, hy, hwd, hm1, q1_, q2_]; (first | done | rfl))
    | fail
    )
    have hx' : ws[i - 1]? = some (nthS ws (i - 1)) := by
      have : i - 1 < ws.length := by omega
      unfold nthS; rw [List.getElem?_eq_getElem this]; rfl
    have hy' := strs_at hx'
    have h119 := a119 D.l0 (a := nthS ws (i - 1)) (b := ws[i]) (hws _ (List.mem_of_getElem? hx')) (hws _ (List.getElem_mem hi))
    refine g_gT (v := .fp (strs ws) (i - 1) 0) (by
      intro hb hc
      have hpos : 0 < i := by simpa using hc
      have e2 : IntKind.i64.wrap ((i : Int) - 1) = ((i - 1 : Nat) : Int) := by rw [IntKind.wrap_i64]; omega
      have e3 : (0 : Int) ≤ ((i - 1 : Nat) : Int) ∧ ((i - 1 : Nat) : Int) < (ws.length : Int) := by omega
      simp only [go_sem, Nat.reduceEqDiff, Nat.reduceAdd, Nat.reduceLeDiff, f0_1, f0_6, f0_7, hb, hc, e2, e3, hll, Int.toNat_natCast, hy', hm1]) ?_
    (repeat' first
    | refine w_seq ?_ | refine w_rg ?_ | refine wo_nil ?_ | refine g_skU ?_ | refine g_skT ?_ | refine g_skF ?_
    | ((first | apply s_plain | apply s_void | apply s_guard | apply g_goT | apply g_goF); · simp only [go_sem, Nat.reduceEqDiff, Nat.reduceAdd, Nat.reduceLeDiff, f0_1, f0_6, f0_7, hy', hm1, h119]; (first | done | rfl))
    | ((first | apply g_T | apply g_F | apply g_gT | apply g_gF); · intro q1_; (first | intro q2_ | have q2_ := q1_); simp only [go_sem, Nat.reduceEqDiff, Nat.reduceAdd, Nat.reduceLeDiff, f0_1, f0_6, f0_7, hy', hm1, h119, q1_, q2_]; (first | done | rfl))
    | fail
    )
    have hbad : badW wordM ws i = (!wordM ws[i] || (decide ((i : Int) > 0) && !lessB (nthS ws (i - 1)) ws[i])) := by unfold badW; rw [hni]
    cases hpi : badW wordM ws i with
    | true =>
      refine w_condT (by simp only [go_sem, Nat.reduceEqDiff, Nat.reduceAdd, Nat.reduceLeDiff]; rw [hbad] at hpi; exact congrArg (fun b => PV.sc (.bool b)) hpi) ?_
      (repeat' first
    | refine w_seq ?_ | refine w_rg ?_ | refine wo_nil ?_ | refine g_skU ?_ | refine g_skT ?_ | refine g_skF ?_
    | ((first | apply s_plain | apply s_void | apply s_guard | apply g_goT | apply g_goF); · simp only [go_sem, Nat.reduceEqDiff, Nat.reduceAdd, Nat.reduceLeDiff]; (first | done | rfl))
    | ((first | apply g_T | apply g_F | apply g_gT | apply g_gF); · intro q1_; (first | intro q2_ | have q2_ := q1_); simp only [go_sem, Nat.reduceEqDiff, Nat.reduceAdd, Nat.reduceLeDiff, q1_, q2_]; (first | done | rfl))
    | (apply w_condX; · simp only [go_sem, Nat.reduceEqDiff, Nat.reduceAdd, Nat.reduceLeDiff]; (first | done | rfl)); (first | refine wcd_T ?_ | refine wcd_F ?_)
    | refine w_skip ?_ | refine w_exit ?_ | refine w_ret ?_
    | fail
    )
      have hr : rightM ⟨n, how, ws⟩ = false := by unfold rightM; rw [rise_hit hi hpi]; rfl
      exact ⟨by first | exact .inr rfl | exact .inr trivial | exact .inl rfl, by simp only [go_sem, Nat.reduceEqDiff, Nat.reduceAdd, Nat.reduceLeDiff, retOf, resOf, hr]; first | done | rfl⟩
    | false =>
      refine w_condF (by simp only [go_sem, Nat.reduceEqDiff, Nat.reduceAdd, Nat.reduceLeDiff]; rw [hbad] at hpi; exact congrArg (fun b => PV.sc (.bool b)) hpi) ?_
      (repeat' first
    | refine w_seq ?_ | refine w_rg ?_ | refine wo_nil ?_ | refine g_skU ?_ | refine g_skT ?_ | refine g_skF ?_
    | ((first | apply s_plain | apply s_void | apply s_guard | apply g_goT | apply g_goF); · simp only [go_sem, Nat.reduceEqDiff, Nat.reduceAdd, Nat.reduceLeDiff]; (first | done | rfl))
    | ((first | apply g_T | apply g_F | apply g_gT | apply g_gF); · intro q1_; (first | intro q2_ | have q2_ := q1_); simp only [go_sem, Nat.reduceEqDiff, Nat.reduceAdd, Nat.reduceLeDiff, q1_, q2_]; (first | done | rfl))
    | (apply w_condX; · simp only [go_sem, Nat.reduceEqDiff, Nat.reduceAdd, Nat.reduceLeDiff]; (first | done | rfl)); (first | refine wcd_T ?_ | refine wcd_F ?_)
    | refine w_skip ?_ | refine w_exit ?_ | refine w_ret ?_
    | fail
    )
      refine ⟨hm1, fun j hj => ?_⟩
      by_cases hji : j = i
      · rw [hji]; exact hpi
      · exact h3 j (by omega)
  · rintro fr2 σ2 ⟨hm1, h3⟩ hfr
    have e0_1 := hfr 1 rfl; try (simp only [go_sem, Nat.reduceEqDiff, Nat.reduceAdd, Nat.reduceLeDiff] at e0_1)
    try simp only [if_true]
    have hrise := rise_all (ok := wordM) h3
    (repeat' first
    | refine w_seq ?_ | refine w_rg ?_ | refine wo_nil ?_ | refine g_skU ?_ | refine g_skT ?_ | refine g_skF ?_
    | ((first | apply s_plain | apply s_void | apply s_guard | apply g_goT | apply g_goF); · simp only [go_sem, Nat.reduceEqDiff, Nat.reduceAdd, Nat.reduceLeDiff, e0_1, hm1, h117, hll]; (first | done | rfl))
    | ((first | apply g_T | apply g_F | apply g_gT | apply g_gF); · intro q1_; (first | intro q2_ | have q2_ := q1_); simp only [go_sem, Nat.reduceEqDiff, Nat.reduceAdd, Nat.reduceLeDiff, e0_1, hm1, h117, hll, q1_, q2_]; (first | done | rfl))
    | fail
    )
    refine w_condB (by simp only [go_sem, Nat.reduceEqDiff, Nat.reduceAdd, Nat.reduceLeDiff]; first | done | rfl) (fun hc => ?_) (fun hc => ?_)
    · have hr : rightM ⟨n, how, ws⟩ = false := by
        unfold rightM
        rw [hrise]
        simp only [Bool.true_and]
        have hmo : mostM how ≤ 8 := by unfold mostM; split <;> omega
        rw [← Bool.not_eq_true]
        intro hh
        simp only [Bool.and_eq_true, decide_eq_true_eq] at hh
        simp only [Bool.or_eq_true, Bool.not_eq_true', decide_eq_true_eq, hll] at hc
        obtain ⟨⟨⟨⟨x1, x2⟩, x3⟩, x4⟩, x5⟩ := hh
        rcases hc with (((hc | hc) | hc) | hc) | hc
        · rw [x3] at hc; cases hc
        all_goals omega
      (repeat' first
    | refine w_seq ?_ | refine w_rg ?_ | refine wo_nil ?_ | refine g_skU ?_ | refine g_skT ?_ | refine g_skF ?_
    | ((first | apply s_plain | apply s_void | apply s_guard | apply g_goT | apply g_goF); · simp only [go_sem, Nat.reduceEqDiff, Nat.reduceAdd, Nat.reduceLeDiff]; (first | done | rfl))
    | ((first | apply g_T | apply g_F | apply g_gT | apply g_gF); · intro q1_; (first | intro q2_ | have q2_ := q1_); simp only [go_sem, Nat.reduceEqDiff, Nat.reduceAdd, Nat.reduceLeDiff, q1_, q2_]; (first | done | rfl))
    | (apply w_condX; · simp only [go_sem, Nat.reduceEqDiff, Nat.reduceAdd, Nat.reduceLeDiff]; (first | done | rfl)); (first | refine wcd_T ?_ | refine wcd_F ?_)
    | refine w_skip ?_ | refine w_exit ?_ | refine w_ret ?_
    | fail
    )
      exact ⟨by first | exact .inr rfl | exact .inr trivial | exact .inl rfl, by simp only [go_sem, Nat.reduceEqDiff, Nat.reduceAdd, Nat.reduceLeDiff, retOf, resOf, hr]; first | done | rfl⟩
    · have hr : rightM ⟨n, how, ws⟩ = (decide (how > 2) || ((ws.length : Int) == 1)) := by
        unfold rightM
        rw [hrise]
        simp only [Bool.true_and]
        simp only [Bool.or_eq_false_iff, Bool.not_eq_false', decide_eq_false_iff_not, hll] at hc
        obtain ⟨⟨⟨⟨c1, c2⟩, c3⟩, c4⟩, c5⟩ := hc
        rw [c1]
        rw [Bool.eq_iff_iff]
        simp only [Bool.and_eq_true, Bool.or_eq_true, decide_eq_true_eq, beq_iff_eq, and_true]
        unfold mostM
        split <;> omega
      (repeat' first
    | refine w_seq ?_ | refine w_rg ?_ | refine wo_nil ?_ | refine g_skU ?_ | refine g_skT ?_ | refine g_skF ?_
    | ((first | apply s_plain | apply s_void | apply s_guard | apply g_goT | apply g_goF); · simp only [go_sem, Nat.reduceEqDiff, Nat.reduceAdd, Nat.reduceLeDiff, e0_1, hm1, hll]; (first | done | rfl))
    | ((first | apply g_T | apply g_F | apply g_gT | apply g_gF); · intro q1_; (first | intro q2_ | have q2_ := q1_); simp only [go_sem, Nat.reduceEqDiff, Nat.reduceAdd, Nat.reduceLeDiff, e0_1, hm1, hll, q1_, q2_]; (first | done | rfl))
    | (apply w_condX; · simp only [go_sem, Nat.reduceEqDiff, Nat.reduceAdd, Nat.reduceLeDiff, e0_1, hm1, hll]; (first | done | rfl)); (first | refine wcd_T ?_ | refine wcd_F ?_)
    | refine w_skip ?_ | refine w_exit ?_ | refine w_ret ?_
    | fail
    )
      exact ⟨by first | exact .inr rfl | exact .inr trivial | exact .inl rfl, by simp only [go_sem, Nat.reduceEqDiff, Nat.reduceAdd, Nat.reduceLeDiff, retOf, resOf, hr]; first | done | rfl⟩
theorem memB_take {l : List ByteArray} {i : Nat} (hi : i < l.length) (s : ByteArray) : memB (l.take (i + 1)) s = (memB (l.take i) s || decide (l[i] = s)) := by
  unfold memB
  rw [List.take_succ_eq_append_getElem hi, List.any_append]
  simp [eq_comm]
theorem a341 (D : Mm9 env) {l : List Lab} {m : Mt} (hln : l.length ≤ 9223372036854775807) (hm : m.Held) (hr : rightM m = true) : AV env 341 [.sl (labs l), mt m] = some (.sc (.bool (holdsM l m))) := by
  obtain ⟨n, how, ws⟩ := m
  obtain ⟨hn, hw, hws⟩ := hm
  simp only at hn hw hws
  have hll := strs_len ws
  have h200 := a200r D.r (l := l) (n := n) hln
  have hmt : mt ⟨n, how, ws⟩ = .agg [.sc (.string n), .sc (.int .i64 how), .sl (strs ws)] := rfl
  have hhow : 1 ≤ how ∧ how ≤ 4 := by
    unfold rightM at hr
    simp only [Bool.and_eq_true, decide_eq_true_eq] at hr
    exact hr.1.1.1.2
  rw [hmt]
  refine AV_wp (D.d (341, d341) (by simp [lkj])) rfl ?_
  (repeat' first
    | refine w_seq ?_ | refine w_rg ?_ | refine wo_nil ?_ | refine g_skU ?_ | refine g_skT ?_ | refine g_skF ?_
    | ((first | apply s_plain | apply s_void | apply s_guard | apply g_goT | apply g_goF); · simp only [go_sem, Nat.reduceEqDiff, Nat.reduceAdd, Nat.reduceLeDiff, hll, h200]; (first | done | rfl))
    | ((first | apply g_T | apply g_F | apply g_gT | apply g_gF); · intro q1_; (first | intro q2_ | have q2_ := q1_); simp only [go_sem, Nat.reduceEqDiff, Nat.reduceAdd, Nat.reduceLeDiff, hll, h200, q1_, q2_]; (first | done | rfl))
    | fail
    )
  refine w_block (w_rangeF ws.length hw (fun i fr σ => fr 6 = .sc (.bool (memB (ws.take i) (getB l n))) ∧ σ.m 2000003 0 = some ⟨3, [.agg [.sc (.string n), .sc (.int .i64 how), .sl (strs ws)]], true, true⟩) ⟨by decide, rfl, rfl⟩ ?_ ?_ (by simp only [go_sem, Nat.reduceEqDiff, Nat.reduceAdd, Nat.reduceLeDiff]; first | done | rfl) (by simp only [go_sem, Nat.reduceEqDiff, Nat.reduceAdd, Nat.reduceLeDiff, hll]; first | done | rfl) ?_ ?_)
  · rintro i fr1 σ1 v ⟨h5, h6⟩
    refine ⟨⟨?_, h6⟩, ⟨?_, h6⟩, ⟨?_, h6⟩⟩ <;> simp only [go_sem, Nat.reduceEqDiff, Nat.reduceAdd, Nat.reduceLeDiff, h5]
  · exact ⟨by simp only [go_sem, Nat.reduceEqDiff, Nat.reduceAdd, Nat.reduceLeDiff]; rfl, by simp only [go_sem, Nat.reduceEqDiff, Nat.reduceAdd, Nat.reduceLeDiff]⟩
  · rintro i fr2 σ2 hi ⟨h6, hm1⟩ hti hfr
    have f0_5 := hfr 5 rfl; have f0_14 := hfr 14 rfl; have f0_15 := hfr 15 rfl; try (simp only [go_sem, Nat.reduceEqDiff, Nat.reduceAdd, Nat.reduceLeDiff] at f0_5); try (simp only [go_sem, Nat.reduceEqDiff, Nat.reduceAdd, Nat.reduceLeDiff] at f0_14); try (simp only [go_sem, Nat.reduceEqDiff, Nat.reduceAdd, Nat.reduceLeDiff] at f0_15)
    have hx := List.getElem?_eq_getElem hi
    have hy := strs_at hx
    have e1 : (0 : Int) ≤ (i : Int) ∧ (i : Int) < (ws.length : Int) := by omega
    have hmt2 := memB_take hi (getB l n)
    refine w_block ?_
    (repeat' first
    | refine w_seq ?_ | refine w_rg ?_ | refine wo_nil ?_ | refine g_skU ?_ | refine g_skT ?_ | refine g_skF ?_
    | ((first | apply s_plain | apply s_void | apply s_guard | apply g_goT | apply g_goF); · simp only [go_sem, Nat.reduceEqDiff, Nat.reduceAdd, Nat.reduceLeDiff, f0_5, f0_14, f0_15, hti, e1, hll, Int.toNat_natCast, hy, h6, ba_beq]; (first | done | rfl))
    | ((first | apply g_T | apply g_F | apply g_gT | apply g_gF); · intro q1_; (first | intro q2_ | have q2_ := q1_); simp only [go_sem, Nat.reduceEqDiff, Nat.reduceAdd, Nat.reduceLeDiff, f0_5, f0_14, f0_15, hti, e1, hll, Int.toNat_natCast, hy, h6, ba_beq, q1_, q2_]; (first | done | rfl))
    | fail
    )
    exact ⟨by simp only [go_sem, Nat.reduceEqDiff, Nat.reduceAdd, Nat.reduceLeDiff, hmt2, ba_beq], hm1⟩
  · rintro fr2 σ2 ⟨h6, hm1⟩ hfr
    have e0_3 := hfr 3 rfl; have e0_4 := hfr 4 rfl; try (simp only [go_sem, Nat.reduceEqDiff, Nat.reduceAdd, Nat.reduceLeDiff] at e0_3); try (simp only [go_sem, Nat.reduceEqDiff, Nat.reduceAdd, Nat.reduceLeDiff] at e0_4)
    try simp only [if_true]
    rw [List.take_length] at h6
    (repeat' first
    | refine w_seq ?_ | refine w_rg ?_ | refine wo_nil ?_ | refine g_skU ?_ | refine g_skT ?_ | refine g_skF ?_
    | ((first | apply s_plain | apply s_void | apply s_guard | apply g_goT | apply g_goF); · simp only [go_sem, Nat.reduceEqDiff, Nat.reduceAdd, Nat.reduceLeDiff, e0_3, e0_4, hm1, h6]; (first | done | rfl))
    | ((first | apply g_T | apply g_F | apply g_gT | apply g_gF); · intro q1_; (first | intro q2_ | have q2_ := q1_); simp only [go_sem, Nat.reduceEqDiff, Nat.reduceAdd, Nat.reduceLeDiff, e0_3, e0_4, hm1, h6, q1_, q2_]; (first | done | rfl))
    | fail
    )
    refine w_condB (by simp only [go_sem, Nat.reduceEqDiff, Nat.reduceAdd, Nat.reduceLeDiff]; first | done | rfl) (fun hc => ?_) (fun hc => ?_)
    · have hh : holdsM l ⟨n, how, ws⟩ = memB ws (getB l n) := by
        unfold holdsM
        simp only [Bool.or_eq_true, beq_iff_eq] at hc
        have h24 : (how == 2 || how == 4) = false := by rw [Bool.or_eq_false_iff, beq_eq_false_iff_ne, beq_eq_false_iff_ne]; omega
        simp only [h24]
        cases memB ws (getB l n) <;> rfl
      (repeat' first
    | refine w_seq ?_ | refine w_rg ?_ | refine wo_nil ?_ | refine g_skU ?_ | refine g_skT ?_ | refine g_skF ?_
    | ((first | apply s_plain | apply s_void | apply s_guard | apply g_goT | apply g_goF); · simp only [go_sem, Nat.reduceEqDiff, Nat.reduceAdd, Nat.reduceLeDiff, h6]; (first | done | rfl))
    | ((first | apply g_T | apply g_F | apply g_gT | apply g_gF); · intro q1_; (first | intro q2_ | have q2_ := q1_); simp only [go_sem, Nat.reduceEqDiff, Nat.reduceAdd, Nat.reduceLeDiff, h6, q1_, q2_]; (first | done | rfl))
    | (apply w_condX; · simp only [go_sem, Nat.reduceEqDiff, Nat.reduceAdd, Nat.reduceLeDiff, h6]; (first | done | rfl)); (first | refine wcd_T ?_ | refine wcd_F ?_)
    | refine w_skip ?_ | refine w_exit ?_ | refine w_ret ?_
    | fail
    )
      exact ⟨by first | exact .inr rfl | exact .inr trivial | exact .inl rfl, by simp only [go_sem, Nat.reduceEqDiff, Nat.reduceAdd, Nat.reduceLeDiff, retOf, resOf, hh]; first | done | rfl⟩
    · have hh : holdsM l ⟨n, how, ws⟩ = !memB ws (getB l n) := by
        unfold holdsM
        simp only [Bool.or_eq_false_iff, beq_eq_false_iff_ne] at hc
        have h24 : (how == 2 || how == 4) = true := by rw [Bool.or_eq_true, beq_iff_eq, beq_iff_eq]; omega
        simp only [h24]
        cases memB ws (getB l n) <;> rfl
      (repeat' first
    | refine w_seq ?_ | refine w_rg ?_ | refine wo_nil ?_ | refine g_skU ?_ | refine g_skT ?_ | refine g_skF ?_
    | ((first | apply s_plain | apply s_void | apply s_guard | apply g_goT | apply g_goF); · simp only [go_sem, Nat.reduceEqDiff, Nat.reduceAdd, Nat.reduceLeDiff, h6]; (first | done | rfl))
    | ((first | apply g_T | apply g_F | apply g_gT | apply g_gF); · intro q1_; (first | intro q2_ | have q2_ := q1_); simp only [go_sem, Nat.reduceEqDiff, Nat.reduceAdd, Nat.reduceLeDiff, h6, q1_, q2_]; (first | done | rfl))
    | (apply w_condX; · simp only [go_sem, Nat.reduceEqDiff, Nat.reduceAdd, Nat.reduceLeDiff, h6]; (first | done | rfl)); (first | refine wcd_T ?_ | refine wcd_F ?_)
    | refine w_skip ?_ | refine w_exit ?_ | refine w_ret ?_
    | fail
    )
      exact ⟨by first | exact .inr rfl | exact .inr trivial | exact .inl rfl, by simp only [go_sem, Nat.reduceEqDiff, Nat.reduceAdd, Nat.reduceLeDiff, retOf, resOf, hh]; first | done | rfl⟩
theorem a339 (D : Mm9 env) {l : List Lab} {ms : List Mt} (hln : l.length ≤ 9223372036854775807) (hml : ms.length ≤ 9223372036854775807) (hm : ∀ m ∈ ms, m.Held) (hr : ∀ m ∈ ms, rightM m = true) : AV env 339 [.sl (labs l), .sl (mts ms)] = some (.sc (.bool (holdsA l ms))) := by
  have hll := mts_len ms
  refine AV_wp (D.d (339, d339) (by simp [lkj])) rfl ?_
  (repeat' first
    | refine w_seq ?_ | refine w_rg ?_ | refine wo_nil ?_ | refine g_skU ?_ | refine g_skT ?_ | refine g_skF ?_
    | ((first | apply s_plain | apply s_void | apply s_guard | apply g_goT | apply g_goF); · simp only [go_sem, Nat.reduceEqDiff, Nat.reduceAdd, Nat.reduceLeDiff, hll]; (first | done | rfl))
    | ((first | apply g_T | apply g_F | apply g_gT | apply g_gF); · intro q1_; (first | intro q2_ | have q2_ := q1_); simp only [go_sem, Nat.reduceEqDiff, Nat.reduceAdd, Nat.reduceLeDiff, hll, q1_, q2_]; (first | done | rfl))
    | fail
    )
  refine w_block (w_rangeF ms.length hml (fun i fr σ => ∀ j (h : j < ms.length), j < i → holdsM l ms[j] = true) ⟨by decide, rfl, rfl⟩ (fun _ _ _ _ h => ⟨h, h, h⟩) (fun j _ hj => by omega) (by simp only [go_sem, Nat.reduceEqDiff, Nat.reduceAdd, Nat.reduceLeDiff]; first | done | rfl) (by simp only [go_sem, Nat.reduceEqDiff, Nat.reduceAdd, Nat.reduceLeDiff, hll]; first | done | rfl) ?_ ?_)
  · rintro i fr2 σ2 hi h3 hti hfr
    have f0_0 := hfr 0 rfl; have f0_7 := hfr 7 rfl; have f0_8 := hfr 8 rfl; try (simp only [go_sem, Nat.reduceEqDiff, Nat.reduceAdd, Nat.reduceLeDiff] at f0_0); try (simp only [go_sem, Nat.reduceEqDiff, Nat.reduceAdd, Nat.reduceLeDiff] at f0_7); try (simp only [go_sem, Nat.reduceEqDiff, Nat.reduceAdd, Nat.reduceLeDiff] at f0_8)
    have hx := List.getElem?_eq_getElem hi
    have hy := mts_at hx
    have e1 : (0 : Int) ≤ (i : Int) ∧ (i : Int) < (ms.length : Int) := by omega
    have h341 := a341 D hln (hm _ (List.getElem_mem hi)) (hr _ (List.getElem_mem hi))
    unfold mt at hy h341
    refine w_block ?_
    (repeat' first
    | refine w_seq ?_ | refine w_rg ?_ | refine wo_nil ?_ | refine g_skU ?_ | refine g_skT ?_ | refine g_skF ?_
    | ((first | apply s_plain | apply s_void | apply s_guard | apply g_goT | apply g_goF); · simp only [go_sem, Nat.reduceEqDiff, Nat.reduceAdd, Nat.reduceLeDiff, f0_0, f0_7, f0_8, hti, e1, hll, Int.toNat_natCast, hy, h341]; (first | done | rfl))
    | ((first | apply g_T | apply g_F | apply g_gT | apply g_gF); · intro q1_; (first | intro q2_ | have q2_ := q1_); simp only [go_sem, Nat.reduceEqDiff, Nat.reduceAdd, Nat.reduceLeDiff, f0_0, f0_7, f0_8, hti, e1, hll, Int.toNat_natCast, hy, h341, q1_, q2_]; (first | done | rfl))
    | fail
    )
    cases hb : holdsM l ms[i] with
    | false =>
      have hf : holdsA l ms = false := by
        unfold holdsA
        rw [List.all_eq_false]
        exact ⟨ms[i], List.getElem_mem hi, by rw [hb]; decide⟩
      rw [hf]
      (repeat' first
    | refine w_seq ?_ | refine w_rg ?_ | refine wo_nil ?_ | refine g_skU ?_ | refine g_skT ?_ | refine g_skF ?_
    | ((first | apply s_plain | apply s_void | apply s_guard | apply g_goT | apply g_goF); · simp only [go_sem, Nat.reduceEqDiff, Nat.reduceAdd, Nat.reduceLeDiff, hb]; (first | done | rfl))
    | ((first | apply g_T | apply g_F | apply g_gT | apply g_gF); · intro q1_; (first | intro q2_ | have q2_ := q1_); simp only [go_sem, Nat.reduceEqDiff, Nat.reduceAdd, Nat.reduceLeDiff, hb, q1_, q2_]; (first | done | rfl))
    | (apply w_condX; · simp only [go_sem, Nat.reduceEqDiff, Nat.reduceAdd, Nat.reduceLeDiff, hb]; (first | done | rfl)); (first | refine wcd_T ?_ | refine wcd_F ?_)
    | refine w_skip ?_ | refine w_exit ?_ | refine w_ret ?_
    | fail
    )
      exact ⟨by first | exact .inr rfl | exact .inr trivial | exact .inl rfl, by simp only [go_sem, Nat.reduceEqDiff, Nat.reduceAdd, Nat.reduceLeDiff, retOf, resOf]; first | done | rfl⟩
    | true =>
      (repeat' first
    | refine w_seq ?_ | refine w_rg ?_ | refine wo_nil ?_ | refine g_skU ?_ | refine g_skT ?_ | refine g_skF ?_
    | ((first | apply s_plain | apply s_void | apply s_guard | apply g_goT | apply g_goF); · simp only [go_sem, Nat.reduceEqDiff, Nat.reduceAdd, Nat.reduceLeDiff, hb]; (first | done | rfl))
    | ((first | apply g_T | apply g_F | apply g_gT | apply g_gF); · intro q1_; (first | intro q2_ | have q2_ := q1_); simp only [go_sem, Nat.reduceEqDiff, Nat.reduceAdd, Nat.reduceLeDiff, hb, q1_, q2_]; (first | done | rfl))
    | (apply w_condX; · simp only [go_sem, Nat.reduceEqDiff, Nat.reduceAdd, Nat.reduceLeDiff, hb]; (first | done | rfl)); (first | refine wcd_T ?_ | refine wcd_F ?_)
    | refine w_skip ?_ | refine w_exit ?_ | refine w_ret ?_
    | fail
    )
      intro j q hj
      by_cases hji : j = i
      · subst hji; exact hb
      · exact h3 j q (by omega)
  · rintro fr2 σ2 h3 hfr
    skip
    try simp only [if_true]
    have ht : holdsA l ms = true := by
      unfold holdsA
      rw [List.all_eq_true]
      intro m hm
      obtain ⟨j, hj, rfl⟩ := List.getElem_of_mem hm
      exact h3 j hj hj
    rw [ht]
    (repeat' first
    | refine w_seq ?_ | refine w_rg ?_ | refine wo_nil ?_ | refine g_skU ?_ | refine g_skT ?_ | refine g_skF ?_
    | ((first | apply s_plain | apply s_void | apply s_guard | apply g_goT | apply g_goF); · simp only [go_sem, Nat.reduceEqDiff, Nat.reduceAdd, Nat.reduceLeDiff]; (first | done | rfl))
    | ((first | apply g_T | apply g_F | apply g_gT | apply g_gF); · intro q1_; (first | intro q2_ | have q2_ := q1_); simp only [go_sem, Nat.reduceEqDiff, Nat.reduceAdd, Nat.reduceLeDiff, q1_, q2_]; (first | done | rfl))
    | (apply w_condX; · simp only [go_sem, Nat.reduceEqDiff, Nat.reduceAdd, Nat.reduceLeDiff]; (first | done | rfl)); (first | refine wcd_T ?_ | refine wcd_F ?_)
    | refine w_skip ?_ | refine w_exit ?_ | refine w_ret ?_
    | fail
    )
    exact ⟨by first | exact .inr rfl | exact .inr trivial | exact .inl rfl, by simp only [go_sem, Nat.reduceEqDiff, Nat.reduceAdd, Nat.reduceLeDiff, retOf, resOf]; first | done | rfl⟩
end

def sortB (l : List ByteArray) : Bool := (List.range l.length).all fun i => !(decide ((i : Int) > 0) && !lessB (nthS l (i - 1)) (nthS l i))
theorem sort_hit {l : List ByteArray} {i : Nat} (hi : i + 1 < l.length) (h : lessB (nthS l i) (nthS l (i + 1)) = false) : sortB l = false := by
  unfold sortB
  rw [List.all_eq_false]
  exact ⟨i + 1, by simpa using hi, by simp [h]⟩
theorem sort_all {l : List ByteArray} (h : ∀ j, j + 1 < l.length → lessB (nthS l j) (nthS l (j + 1)) = true) : sortB l = true := by
  unfold sortB
  rw [List.all_eq_true]
  intro i hi
  rw [List.mem_range] at hi
  cases i with
  | zero => rfl
  | succ i => rw [show i + 1 - 1 = i from rfl, h i hi]; simp
theorem rise_split (ok : ByteArray → Bool) (l : List ByteArray) : riseB ok l = (l.all ok && sortB l) := by
  rw [Bool.eq_iff_iff, Bool.and_eq_true]
  unfold riseB sortB badW
  simp only [List.all_eq_true, List.mem_range]
  constructor
  · intro h
    refine ⟨fun x hx => ?_, fun i hi => ?_⟩
    · obtain ⟨i, hi, rfl⟩ := List.getElem_of_mem hx
      have := h i hi
      rw [nthS_eq hi] at this
      simp only [Bool.not_eq_true', Bool.or_eq_false_iff, Bool.not_eq_false'] at this
      exact this.1
    · have := h i hi
      simp only [Bool.not_eq_true', Bool.or_eq_false_iff] at this ⊢
      exact this.2
  · rintro ⟨h1, h2⟩ i hi
    have a := h1 l[i] (List.getElem_mem hi)
    have b := h2 i hi
    rw [← nthS_eq hi] at a
    simp only [Bool.not_eq_true', Bool.or_eq_false_iff, Bool.not_eq_false'] at b ⊢
    exact ⟨a, b⟩
section
variable {env : Nat → Option Def} {fr : Fr} {σ σ' σ'' : St} {K : Fr → St → Prop} {Q : X → Fr → St → Prop} {p : PV} {bs : List UInt8}
theorem a343 (D : Mm9 env) {l : List ByteArray} (hn : l.length ≤ 9223372036854775807) (hs : ∀ s ∈ l, Small s) : AV env 343 [.sl (strs l)] = some (.sc (.bool (sortB l && decide ((l.length : Int) ≤ 8)))) := by
  have hll := strs_len l
  refine AV_wp (D.d (343, d343) (by simp [lkj])) rfl ?_
  (repeat' first
    | refine w_seq ?_ | refine w_rg ?_ | refine wo_nil ?_ | refine g_skU ?_ | refine g_skT ?_ | refine g_skF ?_
    | ((first | apply s_plain | apply s_void | apply s_guard | apply g_goT | apply g_goF); · simp only [go_sem, Nat.reduceEqDiff, Nat.reduceAdd, Nat.reduceLeDiff]; (first | done | rfl))
    | ((first | apply g_T | apply g_F | apply g_gT | apply g_gF); · intro q1_; (first | intro q2_ | have q2_ := q1_); simp only [go_sem, Nat.reduceEqDiff, Nat.reduceAdd, Nat.reduceLeDiff, q1_, q2_]; (first | done | rfl))
    | fail
    )
  refine w_block (w_count (l.length - 1) (fun k fr σ => fr 0 = .sl (strs l) ∧ fr 3 = .sc (.int .i64 ((k + 1 : Nat) : Int)) ∧ ∀ j, j < k → lessB (nthS l j) (nthS l (j + 1)) = true) ?_ _ _ ?_)
  · rintro i fr σ hi ⟨h0, h3, h2⟩
    by_cases hlt : i + 1 < l.length
    · have hd : decide (((i + 1 : Nat) : Int) < (l.length : Int)) = true := by simp; omega
      have hx := List.getElem?_eq_getElem hlt
      have hx' := List.getElem?_eq_getElem (show i < l.length by omega)
      have hy := strs_at hx
      have hy' := strs_at hx'
      have e1 : (0 : Int) ≤ ((i + 1 : Nat) : Int) ∧ ((i + 1 : Nat) : Int) < (l.length : Int) := by omega
      have e3 : (0 : Int) ≤ (i : Int) ∧ (i : Int) < (l.length : Int) := by omega
      have e2 : IntKind.i64.wrap (((i + 1 : Nat) : Int) - 1) = (i : Int) := by rw [IntKind.wrap_i64]; omega
      have e4 : IntKind.i64.wrap (((i + 1 : Nat) : Int) + 1) = ((i + 1 + 1 : Nat) : Int) := by rw [IntKind.wrap_i64]; omega
      have h119 := a119 D.l0 (a := l[i]) (b := l[i + 1]) (hs _ (List.getElem_mem _)) (hs _ (List.getElem_mem _))
      have n1 := nthS_eq (show i < l.length by omega)
      have n2 := nthS_eq hlt
      (repeat' first
    | refine w_seq ?_ | refine w_rg ?_ | refine wo_nil ?_ | refine g_skU ?_ | refine g_skT ?_ | refine g_skF ?_
    | ((first | apply s_plain | apply s_void | apply s_guard | apply g_goT | apply g_goF); · simp only [go_sem, Nat.reduceEqDiff, Nat.reduceAdd, Nat.reduceLeDiff, h0, h3, hd, hll]; (first | done | rfl))
    | ((first | apply g_T | apply g_F | apply g_gT | apply g_gF); · intro q1_; (first | intro q2_ | have q2_ := q1_); simp only [go_sem, Nat.reduceEqDiff, Nat.reduceAdd, Nat.reduceLeDiff, h0, h3, hd, hll, q1_, q2_]; (first | done | rfl))
    | (apply w_condX; · simp only [go_sem, Nat.reduceEqDiff, Nat.reduceAdd, Nat.reduceLeDiff, h0, h3, hd, hll]; (first | done | rfl)); (first | refine wcd_T ?_ | refine wcd_F ?_)
    | refine w_skip ?_ | refine w_exit ?_ | refine w_ret ?_
    | fail
    )
      refine w_block ?_
      (repeat' first
    | refine w_seq ?_ | refine w_rg ?_ | refine wo_nil ?_ | refine g_skU ?_ | refine g_skT ?_ | refine g_skF ?_
    | ((first | apply s_plain | apply s_void | apply s_guard | apply g_goT | apply g_goF); · simp only [go_sem, Nat.reduceEqDiff, Nat.reduceAdd, Nat.reduceLeDiff, h0, h3, e1, e2, e3, hll, Int.toNat_natCast, hy, hy', h119]; (first | done | rfl))
    | ((first | apply g_T | apply g_F | apply g_gT | apply g_gF); · intro q1_; (first | intro q2_ | have q2_ := q1_); simp only [go_sem, Nat.reduceEqDiff, Nat.reduceAdd, Nat.reduceLeDiff, h0, h3, e1, e2, e3, hll, Int.toNat_natCast, hy, hy', h119, q1_, q2_]; (first | done | rfl))
    | fail
    )
      cases hb : lessB l[i] l[i + 1] with
      | false =>
        have hf : sortB l = false := sort_hit hlt (by rw [n1, n2]; exact hb)
        rw [hf]
        (repeat' first
    | refine w_seq ?_ | refine w_rg ?_ | refine wo_nil ?_ | refine g_skU ?_ | refine g_skT ?_ | refine g_skF ?_
    | ((first | apply s_plain | apply s_void | apply s_guard | apply g_goT | apply g_goF); · simp only [go_sem, Nat.reduceEqDiff, Nat.reduceAdd, Nat.reduceLeDiff, hb]; (first | done | rfl))
    | ((first | apply g_T | apply g_F | apply g_gT | apply g_gF); · intro q1_; (first | intro q2_ | have q2_ := q1_); simp only [go_sem, Nat.reduceEqDiff, Nat.reduceAdd, Nat.reduceLeDiff, hb, q1_, q2_]; (first | done | rfl))
    | (apply w_condX; · simp only [go_sem, Nat.reduceEqDiff, Nat.reduceAdd, Nat.reduceLeDiff, hb]; (first | done | rfl)); (first | refine wcd_T ?_ | refine wcd_F ?_)
    | refine w_skip ?_ | refine w_exit ?_ | refine w_ret ?_
    | fail
    )
        exact ⟨by first | exact .inr rfl | exact .inr trivial | exact .inl rfl, by simp only [go_sem, Nat.reduceEqDiff, Nat.reduceAdd, Nat.reduceLeDiff, retOf, resOf, Bool.false_and]; first | done | rfl⟩
      | true =>
        (repeat' first
    | refine w_seq ?_ | refine w_rg ?_ | refine wo_nil ?_ | refine g_skU ?_ | refine g_skT ?_ | refine g_skF ?_
    | ((first | apply s_plain | apply s_void | apply s_guard | apply g_goT | apply g_goF); · simp only [go_sem, Nat.reduceEqDiff, Nat.reduceAdd, Nat.reduceLeDiff, hb, h3, e4]; (first | done | rfl))
    | ((first | apply g_T | apply g_F | apply g_gT | apply g_gF); · intro q1_; (first | intro q2_ | have q2_ := q1_); simp only [go_sem, Nat.reduceEqDiff, Nat.reduceAdd, Nat.reduceLeDiff, hb, h3, e4, q1_, q2_]; (first | done | rfl))
    | (apply w_condX; · simp only [go_sem, Nat.reduceEqDiff, Nat.reduceAdd, Nat.reduceLeDiff, hb, h3, e4]; (first | done | rfl)); (first | refine wcd_T ?_ | refine wcd_F ?_)
    | refine w_skip ?_ | refine w_exit ?_ | refine w_ret ?_
    | fail
    )
        refine ⟨by omega, ?_, ?_, fun j hj => ?_⟩
        · simp only [go_sem, Nat.reduceEqDiff, Nat.reduceAdd, Nat.reduceLeDiff, h0]
        · simp only [go_sem, Nat.reduceEqDiff, Nat.reduceAdd, Nat.reduceLeDiff]
        · by_cases hji : j = i
          · rw [hji, n1, n2]; exact hb
          · exact h2 j (by omega)
    · have hd : decide (((i + 1 : Nat) : Int) < (l.length : Int)) = false := by simp; omega
      have ht : sortB l = true := sort_all fun j hj => h2 j (by omega)
      rw [ht]
      (repeat' first
    | refine w_seq ?_ | refine w_rg ?_ | refine wo_nil ?_ | refine g_skU ?_ | refine g_skT ?_ | refine g_skF ?_
    | ((first | apply s_plain | apply s_void | apply s_guard | apply g_goT | apply g_goF); · simp only [go_sem, Nat.reduceEqDiff, Nat.reduceAdd, Nat.reduceLeDiff, h0, h3, hd, hll]; (first | done | rfl))
    | ((first | apply g_T | apply g_F | apply g_gT | apply g_gF); · intro q1_; (first | intro q2_ | have q2_ := q1_); simp only [go_sem, Nat.reduceEqDiff, Nat.reduceAdd, Nat.reduceLeDiff, h0, h3, hd, hll, q1_, q2_]; (first | done | rfl))
    | (apply w_condX; · simp only [go_sem, Nat.reduceEqDiff, Nat.reduceAdd, Nat.reduceLeDiff, h0, h3, hd, hll]; (first | done | rfl)); (first | refine wcd_T ?_ | refine wcd_F ?_)
    | refine w_skip ?_ | refine w_exit ?_ | refine w_ret ?_
    | fail
    )
      try simp only [if_true]
      (repeat' first
    | refine w_seq ?_ | refine w_rg ?_ | refine wo_nil ?_ | refine g_skU ?_ | refine g_skT ?_ | refine g_skF ?_
    | ((first | apply s_plain | apply s_void | apply s_guard | apply g_goT | apply g_goF); · simp only [go_sem, Nat.reduceEqDiff, Nat.reduceAdd, Nat.reduceLeDiff, h0, hll]; (first | done | rfl))
    | ((first | apply g_T | apply g_F | apply g_gT | apply g_gF); · intro q1_; (first | intro q2_ | have q2_ := q1_); simp only [go_sem, Nat.reduceEqDiff, Nat.reduceAdd, Nat.reduceLeDiff, h0, hll, q1_, q2_]; (first | done | rfl))
    | (apply w_condX; · simp only [go_sem, Nat.reduceEqDiff, Nat.reduceAdd, Nat.reduceLeDiff, h0, hll]; (first | done | rfl)); (first | refine wcd_T ?_ | refine wcd_F ?_)
    | refine w_skip ?_ | refine w_exit ?_ | refine w_ret ?_
    | fail
    )
      exact ⟨by first | exact .inr rfl | exact .inr trivial | exact .inl rfl, by simp only [go_sem, Nat.reduceEqDiff, Nat.reduceAdd, Nat.reduceLeDiff, retOf, resOf, Bool.true_and]; first | done | rfl⟩
  · refine ⟨?_, ?_, fun j hj => by omega⟩
    · simp only [go_sem, Nat.reduceEqDiff, Nat.reduceAdd, Nat.reduceLeDiff]
    · simp only [go_sem, Nat.reduceEqDiff, Nat.reduceAdd, Nat.reduceLeDiff]; (first | done | rfl)
theorem a344 (D : Mm9 env) (n least : Int) : AV env 344 [.sc (.int .i64 n), .sc (.int .i64 least)] = some (.sc (.bool (inT n least))) := by
  refine AV_wp (D.d (344, d344) (by simp [lkj])) rfl ?_
  (repeat' first
    | refine w_seq ?_ | refine w_rg ?_ | refine wo_nil ?_ | refine g_skU ?_ | refine g_skT ?_ | refine g_skF ?_
    | ((first | apply s_plain | apply s_void | apply s_guard | apply g_goT | apply g_goF); · simp only [go_sem, Nat.reduceEqDiff, Nat.reduceAdd, Nat.reduceLeDiff]; (first | done | rfl))
    | ((first | apply g_T | apply g_F | apply g_gT | apply g_gF); · intro q1_; (first | intro q2_ | have q2_ := q1_); simp only [go_sem, Nat.reduceEqDiff, Nat.reduceAdd, Nat.reduceLeDiff, q1_, q2_]; (first | done | rfl))
    | (apply w_condX; · simp only [go_sem, Nat.reduceEqDiff, Nat.reduceAdd, Nat.reduceLeDiff]; (first | done | rfl)); (first | refine wcd_T ?_ | refine wcd_F ?_)
    | refine w_skip ?_ | refine w_exit ?_ | refine w_ret ?_
    | fail
    )
  exact ⟨by first | exact .inr rfl | exact .inr trivial | exact .inl rfl, by simp only [go_sem, Nat.reduceEqDiff, Nat.reduceAdd, Nat.reduceLeDiff, retOf, resOf, inT]; first | done | rfl⟩
theorem headR_eq (h : Rh) (k : Nat) : headR h k = (h.ms.all rightM && (h.bys.all nameB && (h.mute.all wordB && ((((((((wordB h.recv && decide ((h.ms.length : Int) ≤ 8)) && (sortB h.bys && decide ((h.bys.length : Int) ≤ 8))) && (sortB h.mute && decide ((h.mute.length : Int) ≤ 8))) && inT h.wait 0) && inT h.every 1) && inT h.rep 1) && decide ((k : Int) ≤ 16)))))) := by
  have e1 : decide ((h.ms.length : Int) > 8) = !decide ((h.ms.length : Int) ≤ 8) := by rw [← decide_not, decide_eq_decide]; omega
  have e2 : decide ((k : Int) > 16) = !decide ((k : Int) ≤ 16) := by rw [← decide_not, decide_eq_decide]; omega
  unfold headR
  rw [rise_split, rise_split, e1, e2]
  simp only [List.all_cons, List.all_nil, Bool.and_true]
  cases h.ms.all rightM <;> cases h.bys.all nameB <;> cases h.mute.all wordB <;> cases wordB h.recv <;> cases decide ((h.ms.length : Int) ≤ 8) <;> cases sortB h.bys <;> simp [Bool.and_assoc, Bool.and_comm, Bool.and_left_comm]
theorem a340 (D : Mm9 env) {h : Rh} {ks : List Rt} (hh : h.Held) : AV env 340 [rhd h (.sl (rts ks))] = some (.sc (.bool (headR h ks.length))) := by
  have hml := mts_len h.ms
  have hbl := strs_len h.bys
  have hul := strs_len h.mute
  have hkl := rts_len ks
  have h30 := a30 D.l (s := h.recv) hh.recv
  have h343a := a343 D hh.bys hh.byss
  have h343b := a343 D hh.mute hh.mutes
  have h344a := a344 D h.wait 0
  have h344b := a344 D h.every 1
  have h344c := a344 D h.rep 1
  rw [headR_eq]
  refine AV_wp (D.d (340, d340) (by simp [lkj])) rfl ?_
  unfold rhd
  (repeat' first
    | refine w_seq ?_ | refine w_rg ?_ | refine wo_nil ?_ | refine g_skU ?_ | refine g_skT ?_ | refine g_skF ?_
    | ((first | apply s_plain | apply s_void | apply s_guard | apply g_goT | apply g_goF); · simp only [go_sem, Nat.reduceEqDiff, Nat.reduceAdd, Nat.reduceLeDiff, hml]; (first | done | rfl))
    | ((first | apply g_T | apply g_F | apply g_gT | apply g_gF); · intro q1_; (first | intro q2_ | have q2_ := q1_); simp only [go_sem, Nat.reduceEqDiff, Nat.reduceAdd, Nat.reduceLeDiff, hml, q1_, q2_]; (first | done | rfl))
    | fail
    )
  refine w_block (w_rangeF h.ms.length hh.ms (fun i fr σ => σ.m 2000001 0 = some ⟨9, [rhd h (.sl (rts ks))], true, true⟩ ∧ ∀ j (q : j < h.ms.length), j < i → rightM h.ms[j] = true) ⟨by decide, rfl, rfl⟩ (fun _ _ _ _ h => ⟨h, h, h⟩) ⟨by simp only [go_sem, Nat.reduceEqDiff, Nat.reduceAdd, Nat.reduceLeDiff, rhd], fun j _ hj => by omega⟩ (by simp only [go_sem, Nat.reduceEqDiff, Nat.reduceAdd, Nat.reduceLeDiff]; first | done | rfl) (by simp only [go_sem, Nat.reduceEqDiff, Nat.reduceAdd, Nat.reduceLeDiff, hml]; first | done | rfl) ?_ ?_)
  · rintro i fr1 σ1 hi ⟨hm1, h3⟩ hti hfr
    have f0_10 := hfr 10 rfl; have f0_11 := hfr 11 rfl; try (simp only [go_sem, Nat.reduceEqDiff, Nat.reduceAdd, Nat.reduceLeDiff] at f0_10); try (simp only [go_sem, Nat.reduceEqDiff, Nat.reduceAdd, Nat.reduceLeDiff] at f0_11)
    have hx := List.getElem?_eq_getElem hi
    have hy := mts_at hx
    have e1 : (0 : Int) ≤ (i : Int) ∧ (i : Int) < (h.ms.length : Int) := by omega
    have h342 := a342 D (hh.mss _ (List.getElem_mem hi))
    unfold mt at hy h342
    refine w_block ?_
    (repeat' first
    | refine w_seq ?_ | refine w_rg ?_ | refine wo_nil ?_ | refine g_skU ?_ | refine g_skT ?_ | refine g_skF ?_
    | ((first | apply s_plain | apply s_void | apply s_guard | apply g_goT | apply g_goF); · simp only [go_sem, Nat.reduceEqDiff, Nat.reduceAdd, Nat.reduceLeDiff, f0_10, f0_11, hti, e1, hml, Int.toNat_natCast, hy, h342]; (first | done | rfl))
    | ((first | apply g_T | apply g_F | apply g_gT | apply g_gF); · intro q1_; (first | intro q2_ | have q2_ := q1_); simp only [go_sem, Nat.reduceEqDiff, Nat.reduceAdd, Nat.reduceLeDiff, f0_10, f0_11, hti, e1, hml, Int.toNat_natCast, hy, h342, q1_, q2_]; (first | done | rfl))
    | fail
    )
    cases hb : rightM h.ms[i] with
    | false =>
      have hf : h.ms.all rightM = false := by
        rw [List.all_eq_false]
        exact ⟨h.ms[i], List.getElem_mem hi, by rw [hb]; decide⟩
      rw [hf]
      (repeat' first
    | refine w_seq ?_ | refine w_rg ?_ | refine wo_nil ?_ | refine g_skU ?_ | refine g_skT ?_ | refine g_skF ?_
    | ((first | apply s_plain | apply s_void | apply s_guard | apply g_goT | apply g_goF); · simp only [go_sem, Nat.reduceEqDiff, Nat.reduceAdd, Nat.reduceLeDiff, hb]; (first | done | rfl))
    | ((first | apply g_T | apply g_F | apply g_gT | apply g_gF); · intro q1_; (first | intro q2_ | have q2_ := q1_); simp only [go_sem, Nat.reduceEqDiff, Nat.reduceAdd, Nat.reduceLeDiff, hb, q1_, q2_]; (first | done | rfl))
    | (apply w_condX; · simp only [go_sem, Nat.reduceEqDiff, Nat.reduceAdd, Nat.reduceLeDiff, hb]; (first | done | rfl)); (first | refine wcd_T ?_ | refine wcd_F ?_)
    | refine w_skip ?_ | refine w_exit ?_ | refine w_ret ?_
    | fail
    )
      exact ⟨by first | exact .inr rfl | exact .inr trivial | exact .inl rfl, by simp only [go_sem, Nat.reduceEqDiff, Nat.reduceAdd, Nat.reduceLeDiff, retOf, resOf, Bool.false_and]; first | done | rfl⟩
    | true =>
      (repeat' first
    | refine w_seq ?_ | refine w_rg ?_ | refine wo_nil ?_ | refine g_skU ?_ | refine g_skT ?_ | refine g_skF ?_
    | ((first | apply s_plain | apply s_void | apply s_guard | apply g_goT | apply g_goF); · simp only [go_sem, Nat.reduceEqDiff, Nat.reduceAdd, Nat.reduceLeDiff, hb]; (first | done | rfl))
    | ((first | apply g_T | apply g_F | apply g_gT | apply g_gF); · intro q1_; (first | intro q2_ | have q2_ := q1_); simp only [go_sem, Nat.reduceEqDiff, Nat.reduceAdd, Nat.reduceLeDiff, hb, q1_, q2_]; (first | done | rfl))
    | (apply w_condX; · simp only [go_sem, Nat.reduceEqDiff, Nat.reduceAdd, Nat.reduceLeDiff, hb]; (first | done | rfl)); (first | refine wcd_T ?_ | refine wcd_F ?_)
    | refine w_skip ?_ | refine w_exit ?_ | refine w_ret ?_
    | fail
    )
      refine ⟨by first | exact hm1 | (simp only [go_sem, Nat.reduceEqDiff, Nat.reduceAdd, Nat.reduceLeDiff, hm1]), fun j q hj => ?_⟩
      by_cases hji : j = i
      · subst hji; exact hb
      · exact h3 j q (by omega)
  rintro fr1 σ1 ⟨hm1, h3⟩ hfr
  have e0_1 := hfr 1 rfl; try (simp only [go_sem, Nat.reduceEqDiff, Nat.reduceAdd, Nat.reduceLeDiff] at e0_1)
  try simp only [if_true]
  have ht : h.ms.all rightM = true := by
    rw [List.all_eq_true]
    intro m hm
    obtain ⟨j, hj, rfl⟩ := List.getElem_of_mem hm
    exact h3 j hj hj
  rw [ht, Bool.true_and]
  unfold rhd at hm1
  (repeat' first
    | refine w_seq ?_ | refine w_rg ?_ | refine wo_nil ?_ | refine g_skU ?_ | refine g_skT ?_ | refine g_skF ?_
    | ((first | apply s_plain | apply s_void | apply s_guard | apply g_goT | apply g_goF); · simp only [go_sem, Nat.reduceEqDiff, Nat.reduceAdd, Nat.reduceLeDiff, e0_1, hm1, hbl]; (first | done | rfl))
    | ((first | apply g_T | apply g_F | apply g_gT | apply g_gF); · intro q1_; (first | intro q2_ | have q2_ := q1_); simp only [go_sem, Nat.reduceEqDiff, Nat.reduceAdd, Nat.reduceLeDiff, e0_1, hm1, hbl, q1_, q2_]; (first | done | rfl))
    | fail
    )
  refine w_block (w_rangeF h.bys.length hh.bys (fun i fr σ => σ1 = σ ∧ ∀ j (q : j < h.bys.length), j < i → nameB h.bys[j] = true) ⟨by decide, rfl, rfl⟩ (fun _ _ _ _ h => ⟨h, h, h⟩) ⟨rfl, fun j _ hj => by omega⟩ (by simp only [go_sem, Nat.reduceEqDiff, Nat.reduceAdd, Nat.reduceLeDiff]; first | done | rfl) (by simp only [go_sem, Nat.reduceEqDiff, Nat.reduceAdd, Nat.reduceLeDiff, hbl]; first | done | rfl) ?_ ?_)
  · rintro i fr2 _ hi ⟨rfl, h3⟩ hti hfr
    have f1_21 := hfr 21 rfl; have f1_22 := hfr 22 rfl; try (simp only [go_sem, Nat.reduceEqDiff, Nat.reduceAdd, Nat.reduceLeDiff, e0_1] at f1_21); try (simp only [go_sem, Nat.reduceEqDiff, Nat.reduceAdd, Nat.reduceLeDiff, e0_1] at f1_22)
    have hx := List.getElem?_eq_getElem hi
    have hy := strs_at hx
    have e1 : (0 : Int) ≤ (i : Int) ∧ (i : Int) < (h.bys.length : Int) := by omega
    have h117 := a117 D.l0 (hh.byss _ (List.getElem_mem hi))
    refine w_block ?_
    (repeat' first
    | refine w_seq ?_ | refine w_rg ?_ | refine wo_nil ?_ | refine g_skU ?_ | refine g_skT ?_ | refine g_skF ?_
    | ((first | apply s_plain | apply s_void | apply s_guard | apply g_goT | apply g_goF); · simp only [go_sem, Nat.reduceEqDiff, Nat.reduceAdd, Nat.reduceLeDiff, f1_21, f1_22, hti, e1, hbl, Int.toNat_natCast, hy, h117]; (first | done | rfl))
    | ((first | apply g_T | apply g_F | apply g_gT | apply g_gF); · intro q1_; (first | intro q2_ | have q2_ := q1_); simp only [go_sem, Nat.reduceEqDiff, Nat.reduceAdd, Nat.reduceLeDiff, f1_21, f1_22, hti, e1, hbl, Int.toNat_natCast, hy, h117, q1_, q2_]; (first | done | rfl))
    | fail
    )
    cases hb : nameB h.bys[i] with
    | false =>
      have hf : h.bys.all nameB = false := by
        rw [List.all_eq_false]
        exact ⟨h.bys[i], List.getElem_mem hi, by rw [hb]; decide⟩
      rw [hf]
      (repeat' first
    | refine w_seq ?_ | refine w_rg ?_ | refine wo_nil ?_ | refine g_skU ?_ | refine g_skT ?_ | refine g_skF ?_
    | ((first | apply s_plain | apply s_void | apply s_guard | apply g_goT | apply g_goF); · simp only [go_sem, Nat.reduceEqDiff, Nat.reduceAdd, Nat.reduceLeDiff, hb]; (first | done | rfl))
    | ((first | apply g_T | apply g_F | apply g_gT | apply g_gF); · intro q1_; (first | intro q2_ | have q2_ := q1_); simp only [go_sem, Nat.reduceEqDiff, Nat.reduceAdd, Nat.reduceLeDiff, hb, q1_, q2_]; (first | done | rfl))
    | (apply w_condX; · simp only [go_sem, Nat.reduceEqDiff, Nat.reduceAdd, Nat.reduceLeDiff, hb]; (first | done | rfl)); (first | refine wcd_T ?_ | refine wcd_F ?_)
    | refine w_skip ?_ | refine w_exit ?_ | refine w_ret ?_
    | fail
    )
      exact ⟨by first | exact .inr rfl | exact .inr trivial | exact .inl rfl, by simp only [go_sem, Nat.reduceEqDiff, Nat.reduceAdd, Nat.reduceLeDiff, retOf, resOf, Bool.false_and]; first | done | rfl⟩
    | true =>
      (repeat' first
    | refine w_seq ?_ | refine w_rg ?_ | refine wo_nil ?_ | refine g_skU ?_ | refine g_skT ?_ | refine g_skF ?_
    | ((first | apply s_plain | apply s_void | apply s_guard | apply g_goT | apply g_goF); · simp only [go_sem, Nat.reduceEqDiff, Nat.reduceAdd, Nat.reduceLeDiff, hb]; (first | done | rfl))
    | ((first | apply g_T | apply g_F | apply g_gT | apply g_gF); · intro q1_; (first | intro q2_ | have q2_ := q1_); simp only [go_sem, Nat.reduceEqDiff, Nat.reduceAdd, Nat.reduceLeDiff, hb, q1_, q2_]; (first | done | rfl))
    | (apply w_condX; · simp only [go_sem, Nat.reduceEqDiff, Nat.reduceAdd, Nat.reduceLeDiff, hb]; (first | done | rfl)); (first | refine wcd_T ?_ | refine wcd_F ?_)
    | refine w_skip ?_ | refine w_exit ?_ | refine w_ret ?_
    | fail
    )
      refine ⟨rfl, fun j q hj => ?_⟩
      by_cases hji : j = i
      · subst hji; exact hb
      · exact h3 j q (by omega)
  rintro fr2 _ ⟨rfl, h4⟩ hfr
  have e1_1 := hfr 1 rfl; try (simp only [go_sem, Nat.reduceEqDiff, Nat.reduceAdd, Nat.reduceLeDiff, e0_1] at e1_1)
  try simp only [if_true]
  have ht : h.bys.all nameB = true := by
    rw [List.all_eq_true]
    intro m hm
    obtain ⟨j, hj, rfl⟩ := List.getElem_of_mem hm
    exact h4 j hj hj
  rw [ht, Bool.true_and]
  (repeat' first
    | refine w_seq ?_ | refine w_rg ?_ | refine wo_nil ?_ | refine g_skU ?_ | refine g_skT ?_ | refine g_skF ?_
    | ((first | apply s_plain | apply s_void | apply s_guard | apply g_goT | apply g_goF); · simp only [go_sem, Nat.reduceEqDiff, Nat.reduceAdd, Nat.reduceLeDiff, e1_1, hm1, hul]; (first | done | rfl))
    | ((first | apply g_T | apply g_F | apply g_gT | apply g_gF); · intro q1_; (first | intro q2_ | have q2_ := q1_); simp only [go_sem, Nat.reduceEqDiff, Nat.reduceAdd, Nat.reduceLeDiff, e1_1, hm1, hul, q1_, q2_]; (first | done | rfl))
    | fail
    )
  refine w_block (w_rangeF h.mute.length hh.mute (fun i fr σ => σ1 = σ ∧ ∀ j (q : j < h.mute.length), j < i → wordB h.mute[j] = true) ⟨by decide, rfl, rfl⟩ (fun _ _ _ _ h => ⟨h, h, h⟩) ⟨rfl, fun j _ hj => by omega⟩ (by simp only [go_sem, Nat.reduceEqDiff, Nat.reduceAdd, Nat.reduceLeDiff]; first | done | rfl) (by simp only [go_sem, Nat.reduceEqDiff, Nat.reduceAdd, Nat.reduceLeDiff, hul]; first | done | rfl) ?_ ?_)
  · rintro i fr3 _ hi ⟨rfl, h3⟩ hti hfr
    have f2_32 := hfr 32 rfl; have f2_33 := hfr 33 rfl; try (simp only [go_sem, Nat.reduceEqDiff, Nat.reduceAdd, Nat.reduceLeDiff, e1_1] at f2_32); try (simp only [go_sem, Nat.reduceEqDiff, Nat.reduceAdd, Nat.reduceLeDiff, e1_1] at f2_33)
    have hx := List.getElem?_eq_getElem hi
    have hy := strs_at hx
    have e1 : (0 : Int) ≤ (i : Int) ∧ (i : Int) < (h.mute.length : Int) := by omega
    have h30 := a30 D.l (hh.mutes _ (List.getElem_mem hi))
    refine w_block ?_
    (repeat' first
    | refine w_seq ?_ | refine w_rg ?_ | refine wo_nil ?_ | refine g_skU ?_ | refine g_skT ?_ | refine g_skF ?_
    | ((first | apply s_plain | apply s_void | apply s_guard | apply g_goT | apply g_goF); · simp only [go_sem, Nat.reduceEqDiff, Nat.reduceAdd, Nat.reduceLeDiff, f2_32, f2_33, hti, e1, hul, Int.toNat_natCast, hy, h30]; (first | done | rfl))
    | ((first | apply g_T | apply g_F | apply g_gT | apply g_gF); · intro q1_; (first | intro q2_ | have q2_ := q1_); simp only [go_sem, Nat.reduceEqDiff, Nat.reduceAdd, Nat.reduceLeDiff, f2_32, f2_33, hti, e1, hul, Int.toNat_natCast, hy, h30, q1_, q2_]; (first | done | rfl))
    | fail
    )
    cases hb : wordB h.mute[i] with
    | false =>
      have hf : h.mute.all wordB = false := by
        rw [List.all_eq_false]
        exact ⟨h.mute[i], List.getElem_mem hi, by rw [hb]; decide⟩
      rw [hf]
      (repeat' first
    | refine w_seq ?_ | refine w_rg ?_ | refine wo_nil ?_ | refine g_skU ?_ | refine g_skT ?_ | refine g_skF ?_
    | ((first | apply s_plain | apply s_void | apply s_guard | apply g_goT | apply g_goF); · simp only [go_sem, Nat.reduceEqDiff, Nat.reduceAdd, Nat.reduceLeDiff, hb]; (first | done | rfl))
    | ((first | apply g_T | apply g_F | apply g_gT | apply g_gF); · intro q1_; (first | intro q2_ | have q2_ := q1_); simp only [go_sem, Nat.reduceEqDiff, Nat.reduceAdd, Nat.reduceLeDiff, hb, q1_, q2_]; (first | done | rfl))
    | (apply w_condX; · simp only [go_sem, Nat.reduceEqDiff, Nat.reduceAdd, Nat.reduceLeDiff, hb]; (first | done | rfl)); (first | refine wcd_T ?_ | refine wcd_F ?_)
    | refine w_skip ?_ | refine w_exit ?_ | refine w_ret ?_
    | fail
    )
      exact ⟨by first | exact .inr rfl | exact .inr trivial | exact .inl rfl, by simp only [go_sem, Nat.reduceEqDiff, Nat.reduceAdd, Nat.reduceLeDiff, retOf, resOf, Bool.false_and]; first | done | rfl⟩
    | true =>
      (repeat' first
    | refine w_seq ?_ | refine w_rg ?_ | refine wo_nil ?_ | refine g_skU ?_ | refine g_skT ?_ | refine g_skF ?_
    | ((first | apply s_plain | apply s_void | apply s_guard | apply g_goT | apply g_goF); · simp only [go_sem, Nat.reduceEqDiff, Nat.reduceAdd, Nat.reduceLeDiff, hb]; (first | done | rfl))
    | ((first | apply g_T | apply g_F | apply g_gT | apply g_gF); · intro q1_; (first | intro q2_ | have q2_ := q1_); simp only [go_sem, Nat.reduceEqDiff, Nat.reduceAdd, Nat.reduceLeDiff, hb, q1_, q2_]; (first | done | rfl))
    | (apply w_condX; · simp only [go_sem, Nat.reduceEqDiff, Nat.reduceAdd, Nat.reduceLeDiff, hb]; (first | done | rfl)); (first | refine wcd_T ?_ | refine wcd_F ?_)
    | refine w_skip ?_ | refine w_exit ?_ | refine w_ret ?_
    | fail
    )
      refine ⟨rfl, fun j q hj => ?_⟩
      by_cases hji : j = i
      · subst hji; exact hb
      · exact h3 j q (by omega)
  rintro fr3 _ ⟨rfl, h5⟩ hfr
  have e2_1 := hfr 1 rfl; try (simp only [go_sem, Nat.reduceEqDiff, Nat.reduceAdd, Nat.reduceLeDiff, e1_1] at e2_1)
  try simp only [if_true]
  have ht : h.mute.all wordB = true := by
    rw [List.all_eq_true]
    intro m hm
    obtain ⟨j, hj, rfl⟩ := List.getElem_of_mem hm
    exact h5 j hj hj
  rw [ht, Bool.true_and]
  (repeat' first
    | refine w_seq ?_ | refine w_rg ?_ | refine wo_nil ?_ | refine g_skU ?_ | refine g_skT ?_ | refine g_skF ?_
    | ((first | apply s_plain | apply s_void | apply s_guard | apply g_goT | apply g_goF); · simp only [go_sem, Nat.reduceEqDiff, Nat.reduceAdd, Nat.reduceLeDiff, e2_1, hm1, h30, hml, hkl, h343a, h343b, h344a, h344b, h344c]; (first | done | rfl))
    | ((first | apply g_T | apply g_F | apply g_gT | apply g_gF); · intro q1_; (first | intro q2_ | have q2_ := q1_); simp only [go_sem, Nat.reduceEqDiff, Nat.reduceAdd, Nat.reduceLeDiff, e2_1, hm1, h30, hml, hkl, h343a, h343b, h344a, h344b, h344c, q1_, q2_]; (first | done | rfl))
    | (apply w_condX; · simp only [go_sem, Nat.reduceEqDiff, Nat.reduceAdd, Nat.reduceLeDiff, e2_1, hm1, h30, hml, hkl, h343a, h343b, h344a, h344b, h344c]; (first | done | rfl)); (first | refine wcd_T ?_ | refine wcd_F ?_)
    | refine w_skip ?_ | refine w_exit ?_ | refine w_ret ?_
    | fail
    )
  exact ⟨by first | exact .inr rfl | exact .inr trivial | exact .inl rfl, by simp only [go_sem, Nat.reduceEqDiff, Nat.reduceAdd, Nat.reduceLeDiff, retOf, resOf]; first | done | rfl⟩
theorem a335 (D : Mm9 env) : ∀ (d : Nat), d < 1000 → ∀ r : Rt, r.Held → AV env 335 [rt r, .sc (.int .i64 (d : Int))] = some (.sc (.bool (mayR d r)))
  | 0, _, r, hr => by
    refine AV_wp (D.d (335, d335) (by simp [lkj])) rfl ?_
    rw [rt_eq]
    unfold rhd
    have e0 : (((0 : Nat) : Int) == 0) = true := rfl
    (repeat' first
    | refine w_seq ?_ | refine w_rg ?_ | refine wo_nil ?_ | refine g_skU ?_ | refine g_skT ?_ | refine g_skF ?_
    | ((first | apply s_plain | apply s_void | apply s_guard | apply g_goT | apply g_goF); · simp only [go_sem, Nat.reduceEqDiff, Nat.reduceAdd, Nat.reduceLeDiff, e0]; (first | done | rfl))
    | ((first | apply g_T | apply g_F | apply g_gT | apply g_gF); · intro q1_; (first | intro q2_ | have q2_ := q1_); simp only [go_sem, Nat.reduceEqDiff, Nat.reduceAdd, Nat.reduceLeDiff, e0, q1_, q2_]; (first | done | rfl))
    | (apply w_condX; · simp only [go_sem, Nat.reduceEqDiff, Nat.reduceAdd, Nat.reduceLeDiff, e0]; (first | done | rfl)); (first | refine wcd_T ?_ | refine wcd_F ?_)
    | refine w_skip ?_ | refine w_exit ?_ | refine w_ret ?_
    | fail
    )
    exact ⟨by first | exact .inr rfl | exact .inr trivial | exact .inl rfl, by simp only [go_sem, Nat.reduceEqDiff, Nat.reduceAdd, Nat.reduceLeDiff, retOf, resOf, mayR]; first | done | rfl⟩
  | d + 1, hd, r, hr => by
    have ih := fun k hk => a335 D d (by omega) k hk
    obtain ⟨h, ks, hh, hkl, hkh⟩ := hr
    have h340 := a340 D (ks := ks) hh
    have hkl' := rts_len ks
    have hmay : mayR (d + 1) (.mk h ks) = (headR h ks.length && ks.all (mayR d)) := rfl
    have e0 : (((d + 1 : Nat) : Int) == 0) = false := by rw [beq_eq_false_iff_ne]; omega
    have e2 : IntKind.i64.wrap (((d + 1 : Nat) : Int) - 1) = (d : Int) := by rw [IntKind.wrap_i64]; omega
    rw [hmay]
    refine AV_wp (D.d (335, d335) (by simp [lkj])) rfl ?_
    rw [rt]
    unfold rhd at h340 ⊢
    (repeat' first
    | refine w_seq ?_ | refine w_rg ?_ | refine wo_nil ?_ | refine g_skU ?_ | refine g_skT ?_ | refine g_skF ?_
    | ((first | apply s_plain | apply s_void | apply s_guard | apply g_goT | apply g_goF); · simp only [go_sem, Nat.reduceEqDiff, Nat.reduceAdd, Nat.reduceLeDiff, e0, h340]; (first | done | rfl))
    | ((first | apply g_T | apply g_F | apply g_gT | apply g_gF); · intro q1_; (first | intro q2_ | have q2_ := q1_); simp only [go_sem, Nat.reduceEqDiff, Nat.reduceAdd, Nat.reduceLeDiff, e0, h340, q1_, q2_]; (first | done | rfl))
    | fail
    )
    cases h1 : headR h ks.length with
    | false =>
      (repeat' first
    | refine w_seq ?_ | refine w_rg ?_ | refine wo_nil ?_ | refine g_skU ?_ | refine g_skT ?_ | refine g_skF ?_
    | ((first | apply s_plain | apply s_void | apply s_guard | apply g_goT | apply g_goF); · simp only [go_sem, Nat.reduceEqDiff, Nat.reduceAdd, Nat.reduceLeDiff, h1]; (first | done | rfl))
    | ((first | apply g_T | apply g_F | apply g_gT | apply g_gF); · intro q1_; (first | intro q2_ | have q2_ := q1_); simp only [go_sem, Nat.reduceEqDiff, Nat.reduceAdd, Nat.reduceLeDiff, h1, q1_, q2_]; (first | done | rfl))
    | (apply w_condX; · simp only [go_sem, Nat.reduceEqDiff, Nat.reduceAdd, Nat.reduceLeDiff, h1]; (first | done | rfl)); (first | refine wcd_T ?_ | refine wcd_F ?_)
    | refine w_skip ?_ | refine w_exit ?_ | refine w_ret ?_
    | fail
    )
      exact ⟨by first | exact .inr rfl | exact .inr trivial | exact .inl rfl, by simp only [go_sem, Nat.reduceEqDiff, Nat.reduceAdd, Nat.reduceLeDiff, retOf, resOf, Bool.false_and]; first | done | rfl⟩
    | true =>
      rw [Bool.true_and]
      (repeat' first
    | refine w_seq ?_ | refine w_rg ?_ | refine wo_nil ?_ | refine g_skU ?_ | refine g_skT ?_ | refine g_skF ?_
    | ((first | apply s_plain | apply s_void | apply s_guard | apply g_goT | apply g_goF); · simp only [go_sem, Nat.reduceEqDiff, Nat.reduceAdd, Nat.reduceLeDiff, h1, hkl']; (first | done | rfl))
    | ((first | apply g_T | apply g_F | apply g_gT | apply g_gF); · intro q1_; (first | intro q2_ | have q2_ := q1_); simp only [go_sem, Nat.reduceEqDiff, Nat.reduceAdd, Nat.reduceLeDiff, h1, hkl', q1_, q2_]; (first | done | rfl))
    | (apply w_condX; · simp only [go_sem, Nat.reduceEqDiff, Nat.reduceAdd, Nat.reduceLeDiff, h1, hkl']; (first | done | rfl)); (first | refine wcd_T ?_ | refine wcd_F ?_)
    | refine w_skip ?_ | refine w_exit ?_ | refine w_ret ?_
    | fail
    )
      refine w_block (w_rangeF ks.length hkl (fun i fr σ => fr 1 = .sc (.int .i64 ((d + 1 : Nat) : Int)) ∧ ∀ j (q : j < ks.length), j < i → mayR d ks[j] = true) ⟨by decide, rfl, rfl⟩ ?_ ?_ (by simp only [go_sem, Nat.reduceEqDiff, Nat.reduceAdd, Nat.reduceLeDiff]; first | done | rfl) (by simp only [go_sem, Nat.reduceEqDiff, Nat.reduceAdd, Nat.reduceLeDiff, hkl']; first | done | rfl) ?_ ?_)
      · rintro i fr1 σ1 v ⟨h5, h6⟩
        refine ⟨⟨?_, h6⟩, ⟨?_, h6⟩, ⟨?_, h6⟩⟩ <;> simp only [go_sem, Nat.reduceEqDiff, Nat.reduceAdd, Nat.reduceLeDiff, h5]
      · exact ⟨by simp only [go_sem, Nat.reduceEqDiff, Nat.reduceAdd, Nat.reduceLeDiff], fun j _ hj => by omega⟩
      · rintro i fr1 σ1 hi ⟨f1, h3⟩ hti hfr
        have f0_1 := hfr 1 rfl; have f0_15 := hfr 15 rfl; have f0_16 := hfr 16 rfl; try (simp only [go_sem, Nat.reduceEqDiff, Nat.reduceAdd, Nat.reduceLeDiff] at f0_1); try (simp only [go_sem, Nat.reduceEqDiff, Nat.reduceAdd, Nat.reduceLeDiff] at f0_15); try (simp only [go_sem, Nat.reduceEqDiff, Nat.reduceAdd, Nat.reduceLeDiff] at f0_16)
        have hx := List.getElem?_eq_getElem hi
        have hy := rts_at hx
        rw [rt_eq] at hy
        have e1 : (0 : Int) ≤ (i : Int) ∧ (i : Int) < (ks.length : Int) := by omega
        have hrec := ih _ (hkh _ (List.getElem_mem hi))
        rw [rt_eq] at hrec
        unfold rhd at hy hrec
        refine w_block ?_
        (repeat' first
    | refine w_seq ?_ | refine w_rg ?_ | refine wo_nil ?_ | refine g_skU ?_ | refine g_skT ?_ | refine g_skF ?_
    | ((first | apply s_plain | apply s_void | apply s_guard | apply g_goT | apply g_goF); · simp only [go_sem, Nat.reduceEqDiff, Nat.reduceAdd, Nat.reduceLeDiff, f0_1, f0_15, f0_16, hti, e1, hkl', Int.toNat_natCast, hy, f1, e2, hrec, List.set_cons_succ]; (first | done | rfl))
    | ((first | apply g_T | apply g_F | apply g_gT | apply g_gF); · intro q1_; (first | intro q2_ | have q2_ := q1_); simp only [go_sem, Nat.reduceEqDiff, Nat.reduceAdd, Nat.reduceLeDiff, f0_1, f0_15, f0_16, hti, e1, hkl', Int.toNat_natCast, hy, f1, e2, hrec, List.set_cons_succ, q1_, q2_]; (first | done | rfl))
    | fail
    )
        cases hb : mayR d ks[i] with
        | false =>
          have hf : ks.all (mayR d) = false := by
            rw [List.all_eq_false]
            exact ⟨ks[i], List.getElem_mem hi, by rw [hb]; decide⟩
          rw [hf]
          (repeat' first
    | refine w_seq ?_ | refine w_rg ?_ | refine wo_nil ?_ | refine g_skU ?_ | refine g_skT ?_ | refine g_skF ?_
    | ((first | apply s_plain | apply s_void | apply s_guard | apply g_goT | apply g_goF); · simp only [go_sem, Nat.reduceEqDiff, Nat.reduceAdd, Nat.reduceLeDiff, hb]; (first | done | rfl))
    | ((first | apply g_T | apply g_F | apply g_gT | apply g_gF); · intro q1_; (first | intro q2_ | have q2_ := q1_); simp only [go_sem, Nat.reduceEqDiff, Nat.reduceAdd, Nat.reduceLeDiff, hb, q1_, q2_]; (first | done | rfl))
    | (apply w_condX; · simp only [go_sem, Nat.reduceEqDiff, Nat.reduceAdd, Nat.reduceLeDiff, hb]; (first | done | rfl)); (first | refine wcd_T ?_ | refine wcd_F ?_)
    | refine w_skip ?_ | refine w_exit ?_ | refine w_ret ?_
    | fail
    )
          exact ⟨by first | exact .inr rfl | exact .inr trivial | exact .inl rfl, by simp only [go_sem, Nat.reduceEqDiff, Nat.reduceAdd, Nat.reduceLeDiff, retOf, resOf]; first | done | rfl⟩
        | true =>
          (repeat' first
    | refine w_seq ?_ | refine w_rg ?_ | refine wo_nil ?_ | refine g_skU ?_ | refine g_skT ?_ | refine g_skF ?_
    | ((first | apply s_plain | apply s_void | apply s_guard | apply g_goT | apply g_goF); · simp only [go_sem, Nat.reduceEqDiff, Nat.reduceAdd, Nat.reduceLeDiff, hb]; (first | done | rfl))
    | ((first | apply g_T | apply g_F | apply g_gT | apply g_gF); · intro q1_; (first | intro q2_ | have q2_ := q1_); simp only [go_sem, Nat.reduceEqDiff, Nat.reduceAdd, Nat.reduceLeDiff, hb, q1_, q2_]; (first | done | rfl))
    | (apply w_condX; · simp only [go_sem, Nat.reduceEqDiff, Nat.reduceAdd, Nat.reduceLeDiff, hb]; (first | done | rfl)); (first | refine wcd_T ?_ | refine wcd_F ?_)
    | refine w_skip ?_ | refine w_exit ?_ | refine w_ret ?_
    | fail
    )
          refine ⟨by simp only [go_sem, Nat.reduceEqDiff, Nat.reduceAdd, Nat.reduceLeDiff, f1], fun j q hj => ?_⟩
          by_cases hji : j = i
          · subst hji; exact hb
          · exact h3 j q (by omega)
      · rintro fr1 σ1 ⟨f1, h3⟩ hfr
        skip
        try simp only [if_true]
        have ht : ks.all (mayR d) = true := by
          rw [List.all_eq_true]
          intro m hm
          obtain ⟨j, hj, rfl⟩ := List.getElem_of_mem hm
          exact h3 j hj hj
        rw [ht]
        (repeat' first
    | refine w_seq ?_ | refine w_rg ?_ | refine wo_nil ?_ | refine g_skU ?_ | refine g_skT ?_ | refine g_skF ?_
    | ((first | apply s_plain | apply s_void | apply s_guard | apply g_goT | apply g_goF); · simp only [go_sem, Nat.reduceEqDiff, Nat.reduceAdd, Nat.reduceLeDiff]; (first | done | rfl))
    | ((first | apply g_T | apply g_F | apply g_gT | apply g_gF); · intro q1_; (first | intro q2_ | have q2_ := q1_); simp only [go_sem, Nat.reduceEqDiff, Nat.reduceAdd, Nat.reduceLeDiff, q1_, q2_]; (first | done | rfl))
    | (apply w_condX; · simp only [go_sem, Nat.reduceEqDiff, Nat.reduceAdd, Nat.reduceLeDiff]; (first | done | rfl)); (first | refine wcd_T ?_ | refine wcd_F ?_)
    | refine w_skip ?_ | refine w_exit ?_ | refine w_ret ?_
    | fail
    )
        exact ⟨by first | exact .inr rfl | exact .inr trivial | exact .inl rfl, by simp only [go_sem, Nat.reduceEqDiff, Nat.reduceAdd, Nat.reduceLeDiff, retOf, resOf]; first | done | rfl⟩
theorem a331 (D : Mm9 env) {r : Rt} (hr : r.Held) : AV env 331 [rt r] = some (.sc (.bool (mayR 4 r))) := by
  have h := a335 D 4 (by omega) r hr
  rw [show ((4 : Nat) : Int) = 4 from rfl] at h
  refine AV_wp (D.d (331, d331) (by simp [lkj])) rfl ?_
  rw [rt_eq] at h ⊢
  unfold rhd at h ⊢
  (repeat' first
    | refine w_seq ?_ | refine w_rg ?_ | refine wo_nil ?_ | refine g_skU ?_ | refine g_skT ?_ | refine g_skF ?_
    | ((first | apply s_plain | apply s_void | apply s_guard | apply g_goT | apply g_goF); · simp only [go_sem, Nat.reduceEqDiff, Nat.reduceAdd, Nat.reduceLeDiff, h]; (first | done | rfl))
    | ((first | apply g_T | apply g_F | apply g_gT | apply g_gF); · intro q1_; (first | intro q2_ | have q2_ := q1_); simp only [go_sem, Nat.reduceEqDiff, Nat.reduceAdd, Nat.reduceLeDiff, h, q1_, q2_]; (first | done | rfl))
    | (apply w_condX; · simp only [go_sem, Nat.reduceEqDiff, Nat.reduceAdd, Nat.reduceLeDiff, h]; (first | done | rfl)); (first | refine wcd_T ?_ | refine wcd_F ?_)
    | refine w_skip ?_ | refine w_exit ?_ | refine w_ret ?_
    | fail
    )
  exact ⟨by first | exact .inr rfl | exact .inr trivial | exact .inl rfl, by simp only [go_sem, Nat.reduceEqDiff, Nat.reduceAdd, Nat.reduceLeDiff, retOf, resOf]; first | done | rfl⟩
end

def d337 : Def := (.code 2 [.tmp 4] (.seq (.rg false [⟨.some 2, .none, .box (.t 0)⟩, ⟨.some 3, .none, .box (.t 1)⟩, ⟨.some 4, .none, .mv (.c (.bool false))⟩]) (.seq (.rg false [⟨.some 5, .none, .fa 0 (.t 2)⟩, ⟨.some 6, .none, .ld .none (.t 5)⟩, ⟨.some 7, .none, .fa 0 (.t 3)⟩, ⟨.some 8, .none, .ld .none (.t 7)⟩, ⟨.some 9, .none, .bin .eql (.t 6) (.t 8)⟩, ⟨.some 10, .none, .mv (.t 9)⟩, ⟨.some 11, .some (10, true), .fa 1 (.t 2)⟩, ⟨.some 12, .some (10, true), .ld .none (.t 11)⟩, ⟨.some 13, .some (10, true), .fa 1 (.t 3)⟩, ⟨.some 14, .some (10, true), .ld .none (.t 13)⟩, ⟨.some 15, .some (10, true), .bin .eql (.t 12) (.t 14)⟩, ⟨.some 16, .none, .pick (.t 10) (.t 15) (.c (.bool false))⟩, ⟨.some 17, .none, .mv (.t 16)⟩, ⟨.some 18, .some (17, true), .fa 2 (.t 2)⟩, ⟨.some 19, .some (17, true), .ld .none (.t 18)⟩, ⟨.some 20, .some (17, true), .fa 2 (.t 3)⟩, ⟨.some 21, .some (17, true), .ld .none (.t 20)⟩, ⟨.some 22, .some (17, true), .call 35 .pure [.t 19, .t 21]⟩, ⟨.some 23, .none, .pick (.t 17) (.t 22) (.c (.bool false))⟩, ⟨.some 4, .none, .mv (.t 23)⟩]) .ret)))
def d336 : Def := (.code 3 [.tmp 6] (.seq (.rg false [⟨.some 6, .none, .mv (.c (.bool false))⟩]) (.seq (.seq (.rg false [⟨.some 10, .none, .mv (.t 0)⟩, ⟨.some 11, .none, .lenL (.t 10)⟩, ⟨.some 12, .none, .mv (.t 1)⟩, ⟨.some 13, .none, .lenL (.t 12)⟩, ⟨.some 14, .none, .bin .neq (.t 11) (.t 13)⟩]) (.cond (.t 14) (.seq (.rg false [⟨.some 6, .none, .mv (.c (.bool false))⟩]) .ret) .skip)) (.seq (.seq (.rg false [⟨.some 15, .none, .mv (.t 0)⟩, ⟨.some 16, .none, .lenL (.t 15)⟩, ⟨.some 17, .none, .mv (.c (.int .i64 0))⟩]) (.block 0 (.loop (.seq (.rg false [⟨.some 18, .none, .bin .lss (.t 17) (.t 16)⟩]) (.seq (.cond (.t 18) .skip (.exit 0)) (.seq (.block 1 (.seq (.rg false [⟨.some 19, .none, .mv (.t 17)⟩, ⟨.some 20, .none, .ia 3 (.t 15) (.t 17)⟩, ⟨.some 21, .none, .ld (.some 3) (.t 20)⟩, ⟨.some 8, .none, .box (.c (.agg #[.string ⟨#[]⟩, .int .i64 0, .slice .none 0 0]))⟩, ⟨.some 7, .none, .mv (.t 19)⟩, ⟨.none, .none, .st 3 (.t 8) (.t 21)⟩]) (.seq (.rg false [⟨.some 22, .none, .mv (.t 1)⟩, ⟨.some 23, .none, .mv (.t 7)⟩, ⟨.some 24, .none, .ia 3 (.t 22) (.t 23)⟩, ⟨.some 25, .none, .ld (.some 3) (.t 24)⟩, ⟨.some 9, .none, .box (.c (.agg #[.string ⟨#[]⟩, .int .i64 0, .slice .none 0 0]))⟩, ⟨.none, .none, .st 3 (.t 9) (.t 25)⟩]) (.seq (.rg false [⟨.some 26, .none, .mv (.t 2)⟩, ⟨.some 27, .none, .ld (.some 3) (.t 8)⟩, ⟨.some 28, .none, .ld (.some 3) (.t 9)⟩, ⟨.some 29, .none, .callv (.t 26) .pure [.t 27, .t 28]⟩, ⟨.some 30, .none, .un .not (.t 29)⟩]) (.cond (.t 30) (.seq (.rg false [⟨.some 6, .none, .mv (.c (.bool false))⟩]) .ret) .skip))))) (.rg false [⟨.some 31, .none, .bin .add (.t 17) (.c (.int .i64 1))⟩, ⟨.some 17, .none, .mv (.t 31)⟩]))))))) (.seq (.rg false [⟨.some 6, .none, .mv (.c (.bool true))⟩]) .ret)))))
def d338 : Def := (.code 3 [.tmp 6] (.seq (.rg false [⟨.some 6, .none, .mv (.c (.bool false))⟩]) (.seq (.seq (.rg false [⟨.some 10, .none, .mv (.t 0)⟩, ⟨.some 11, .none, .lenL (.t 10)⟩, ⟨.some 12, .none, .mv (.t 1)⟩, ⟨.some 13, .none, .lenL (.t 12)⟩, ⟨.some 14, .none, .bin .neq (.t 11) (.t 13)⟩]) (.cond (.t 14) (.seq (.rg false [⟨.some 6, .none, .mv (.c (.bool false))⟩]) .ret) .skip)) (.seq (.seq (.rg false [⟨.some 15, .none, .mv (.t 0)⟩, ⟨.some 16, .none, .lenL (.t 15)⟩, ⟨.some 17, .none, .mv (.c (.int .i64 0))⟩]) (.block 0 (.loop (.seq (.rg false [⟨.some 18, .none, .bin .lss (.t 17) (.t 16)⟩]) (.seq (.cond (.t 18) .skip (.exit 0)) (.seq (.block 1 (.seq (.rg false [⟨.some 19, .none, .mv (.t 17)⟩, ⟨.some 20, .none, .ia 9 (.t 15) (.t 17)⟩, ⟨.some 21, .none, .ld (.some 9) (.t 20)⟩, ⟨.some 8, .none, .box (.c (.agg #[.string ⟨#[]⟩, .slice .none 0 0, .slice .none 0 0, .int .i64 0, .int .i64 0, .int .i64 0, .slice .none 0 0, .bool false, .slice .none 0 0]))⟩, ⟨.some 7, .none, .mv (.t 19)⟩, ⟨.none, .none, .st 9 (.t 8) (.t 21)⟩]) (.seq (.rg false [⟨.some 22, .none, .mv (.t 1)⟩, ⟨.some 23, .none, .mv (.t 7)⟩, ⟨.some 24, .none, .ia 9 (.t 22) (.t 23)⟩, ⟨.some 25, .none, .ld (.some 9) (.t 24)⟩, ⟨.some 9, .none, .box (.c (.agg #[.string ⟨#[]⟩, .slice .none 0 0, .slice .none 0 0, .int .i64 0, .int .i64 0, .int .i64 0, .slice .none 0 0, .bool false, .slice .none 0 0]))⟩, ⟨.none, .none, .st 9 (.t 9) (.t 25)⟩]) (.seq (.rg false [⟨.some 26, .none, .mv (.t 2)⟩, ⟨.some 27, .none, .ld (.some 9) (.t 8)⟩, ⟨.some 28, .none, .ld (.some 9) (.t 9)⟩, ⟨.some 29, .none, .callv (.t 26) .pure [.t 27, .t 28]⟩, ⟨.some 30, .none, .un .not (.t 29)⟩]) (.cond (.t 30) (.seq (.rg false [⟨.some 6, .none, .mv (.c (.bool false))⟩]) .ret) .skip))))) (.rg false [⟨.some 31, .none, .bin .add (.t 17) (.c (.int .i64 1))⟩, ⟨.some 17, .none, .mv (.t 31)⟩]))))))) (.seq (.rg false [⟨.some 6, .none, .mv (.c (.bool true))⟩]) .ret)))))
def d332 : Def := (.code 2 [.tmp 4] (.seq (.rg false [⟨.some 2, .none, .box (.t 0)⟩, ⟨.some 3, .none, .box (.t 1)⟩, ⟨.some 4, .none, .mv (.c (.bool false))⟩]) (.seq (.rg false [⟨.some 6, .none, .fa 0 (.t 2)⟩, ⟨.some 7, .none, .ld .none (.t 6)⟩, ⟨.some 8, .none, .fa 0 (.t 3)⟩, ⟨.some 9, .none, .ld .none (.t 8)⟩, ⟨.some 10, .none, .bin .eql (.t 7) (.t 9)⟩, ⟨.some 11, .none, .mv (.t 10)⟩, ⟨.some 12, .some (11, true), .fa 3 (.t 2)⟩, ⟨.some 13, .some (11, true), .ld .none (.t 12)⟩, ⟨.some 14, .some (11, true), .fa 3 (.t 3)⟩, ⟨.some 15, .some (11, true), .ld .none (.t 14)⟩, ⟨.some 16, .some (11, true), .bin .eql (.t 13) (.t 15)⟩, ⟨.some 17, .none, .pick (.t 11) (.t 16) (.c (.bool false))⟩, ⟨.some 18, .none, .mv (.t 17)⟩, ⟨.some 19, .some (18, true), .fa 4 (.t 2)⟩, ⟨.some 20, .some (18, true), .ld .none (.t 19)⟩, ⟨.some 21, .some (18, true), .fa 4 (.t 3)⟩, ⟨.some 22, .some (18, true), .ld .none (.t 21)⟩, ⟨.some 23, .some (18, true), .bin .eql (.t 20) (.t 22)⟩, ⟨.some 24, .none, .pick (.t 18) (.t 23) (.c (.bool false))⟩, ⟨.some 25, .none, .mv (.t 24)⟩, ⟨.some 26, .some (25, true), .fa 5 (.t 2)⟩, ⟨.some 27, .some (25, true), .ld .none (.t 26)⟩, ⟨.some 28, .some (25, true), .fa 5 (.t 3)⟩, ⟨.some 29, .some (25, true), .ld .none (.t 28)⟩, ⟨.some 30, .some (25, true), .bin .eql (.t 27) (.t 29)⟩, ⟨.some 31, .none, .pick (.t 25) (.t 30) (.c (.bool false))⟩, ⟨.some 32, .none, .mv (.t 31)⟩, ⟨.some 33, .some (32, true), .fa 7 (.t 2)⟩, ⟨.some 34, .some (32, true), .ld .none (.t 33)⟩, ⟨.some 35, .some (32, true), .fa 7 (.t 3)⟩, ⟨.some 36, .some (32, true), .ld .none (.t 35)⟩, ⟨.some 37, .some (32, true), .beq false (.t 34) (.t 36)⟩, ⟨.some 38, .none, .pick (.t 32) (.t 37) (.c (.bool false))⟩, ⟨.some 5, .none, .mv (.t 38)⟩]) (.seq (.rg false [⟨.some 39, .none, .mv (.t 5)⟩, ⟨.some 40, .none, .mv (.t 39)⟩, ⟨.some 41, .some (40, true), .fa 1 (.t 2)⟩, ⟨.some 42, .some (40, true), .ld .none (.t 41)⟩, ⟨.some 43, .some (40, true), .fa 1 (.t 3)⟩, ⟨.some 44, .some (40, true), .ld .none (.t 43)⟩, ⟨.some 45, .some (40, true), .call 336 .pure [.t 42, .t 44, .f 337]⟩, ⟨.some 46, .none, .pick (.t 40) (.t 45) (.c (.bool false))⟩, ⟨.some 47, .none, .mv (.t 46)⟩, ⟨.some 48, .some (47, true), .fa 2 (.t 2)⟩, ⟨.some 49, .some (47, true), .ld .none (.t 48)⟩, ⟨.some 50, .some (47, true), .fa 2 (.t 3)⟩, ⟨.some 51, .some (47, true), .ld .none (.t 50)⟩, ⟨.some 52, .some (47, true), .call 35 .pure [.t 49, .t 51]⟩, ⟨.some 53, .none, .pick (.t 47) (.t 52) (.c (.bool false))⟩, ⟨.some 54, .none, .mv (.t 53)⟩, ⟨.some 55, .some (54, true), .fa 6 (.t 2)⟩, ⟨.some 56, .some (54, true), .ld .none (.t 55)⟩, ⟨.some 57, .some (54, true), .fa 6 (.t 3)⟩, ⟨.some 58, .some (54, true), .ld .none (.t 57)⟩, ⟨.some 59, .some (54, true), .call 35 .pure [.t 56, .t 58]⟩, ⟨.some 60, .none, .pick (.t 54) (.t 59) (.c (.bool false))⟩, ⟨.some 61, .none, .mv (.t 60)⟩, ⟨.some 62, .some (61, true), .fa 8 (.t 2)⟩, ⟨.some 63, .some (61, true), .ld .none (.t 62)⟩, ⟨.some 64, .some (61, true), .fa 8 (.t 3)⟩, ⟨.some 65, .some (61, true), .ld .none (.t 64)⟩, ⟨.some 66, .some (61, true), .call 338 .pure [.t 63, .t 65, .f 332]⟩, ⟨.some 67, .none, .pick (.t 61) (.t 66) (.c (.bool false))⟩, ⟨.some 4, .none, .mv (.t 67)⟩]) .ret))))
def d333 : Def := (.code 1 [.tmp 2] (.seq (.rg false [⟨.some 1, .none, .box (.t 0)⟩, ⟨.some 2, .none, .mv (.c (.int .i64 0))⟩]) (.seq (.rg false [⟨.some 3, .none, .mv (.c (.int .i64 1))⟩]) (.seq (.seq (.rg false [⟨.some 6, .none, .fa 8 (.t 1)⟩, ⟨.some 7, .none, .ld .none (.t 6)⟩, ⟨.some 8, .none, .lenL (.t 7)⟩, ⟨.some 9, .none, .mv (.c (.int .i64 0))⟩]) (.block 0 (.loop (.seq (.rg false [⟨.some 10, .none, .bin .lss (.t 9) (.t 8)⟩]) (.seq (.cond (.t 10) .skip (.exit 0)) (.seq (.block 1 (.seq (.rg false [⟨.some 11, .none, .ia 9 (.t 7) (.t 9)⟩, ⟨.some 12, .none, .ld (.some 9) (.t 11)⟩, ⟨.some 5, .none, .box (.c (.agg #[.string ⟨#[]⟩, .slice .none 0 0, .slice .none 0 0, .int .i64 0, .int .i64 0, .int .i64 0, .slice .none 0 0, .bool false, .slice .none 0 0]))⟩, ⟨.none, .none, .st 9 (.t 5) (.t 12)⟩]) (.rg false [⟨.some 13, .none, .mv (.t 3)⟩, ⟨.some 14, .none, .ld (.some 9) (.t 5)⟩, ⟨.some 15, .none, .call 333 .pure [.t 14]⟩, ⟨.some 16, .none, .bin .add (.t 13) (.t 15)⟩, ⟨.some 3, .none, .mv (.t 16)⟩]))) (.rg false [⟨.some 17, .none, .bin .add (.t 9) (.c (.int .i64 1))⟩, ⟨.some 9, .none, .mv (.t 17)⟩]))))))) (.seq (.rg false [⟨.some 18, .none, .mv (.t 3)⟩, ⟨.some 2, .none, .mv (.t 18)⟩]) .ret)))))
def lkk : List (Nat × Def) := [(337, d337), (336, d336), (338, d338), (332, d332), (333, d333)]
section
variable {env : Nat → Option Def} {fr : Fr} {σ σ' σ'' : St} {K : Fr → St → Prop} {Q : X → Fr → St → Prop} {p : PV} {bs : List UInt8}
theorem a337 (D : Has lhe env) (F : Has lkk env) {a b : Mt} (hn : a.ws.length ≤ 9223372036854775807) : AV env 337 [mt a, mt b] = some (.sc (.bool (decide (a = b)))) := by
  have h35 := a35 D (a := a.ws) (b := b.ws) hn
  refine AV_wp (F (337, d337) (by simp [lkk])) rfl ?_
  unfold mt
  (repeat' first
    | refine w_seq ?_ | refine w_rg ?_ | refine wo_nil ?_ | refine g_skU ?_ | refine g_skT ?_ | refine g_skF ?_
    | ((first | apply s_plain | apply s_void | apply s_guard | apply g_goT | apply g_goF); · simp only [go_sem, Nat.reduceEqDiff, Nat.reduceAdd, Nat.reduceLeDiff, h35, ba_beq]; (first | done | rfl))
    | ((first | apply g_T | apply g_F | apply g_gT | apply g_gF); · intro q1_; (first | intro q2_ | have q2_ := q1_); simp only [go_sem, Nat.reduceEqDiff, Nat.reduceAdd, Nat.reduceLeDiff, h35, ba_beq, q1_, q2_]; (first | done | rfl))
    | (apply w_condX; · simp only [go_sem, Nat.reduceEqDiff, Nat.reduceAdd, Nat.reduceLeDiff, h35, ba_beq]; (first | done | rfl)); (first | refine wcd_T ?_ | refine wcd_F ?_)
    | refine w_skip ?_ | refine w_exit ?_ | refine w_ret ?_
    | fail
    )
  have e : decide (a = b) = ((decide (a.n = b.n) && (a.how == b.how)) && decide (a.ws = b.ws)) := by
    obtain ⟨n, how, ws⟩ := a
    obtain ⟨n', how', ws'⟩ := b
    rw [Bool.eq_iff_iff]
    simp only [decide_eq_true_eq, Bool.and_eq_true, beq_iff_eq, Mt.mk.injEq]
    exact ⟨fun ⟨x, y, z⟩ => ⟨⟨x, y⟩, z⟩, fun ⟨⟨x, y⟩, z⟩ => ⟨x, y, z⟩⟩
  exact ⟨by first | exact .inr rfl | exact .inr trivial | exact .inl rfl, by simp only [go_sem, Nat.reduceEqDiff, Nat.reduceAdd, Nat.reduceLeDiff, retOf, resOf, e]; first | done | rfl⟩
theorem a336 (D : Has lhe env) (F : Has lkk env) {a b : List Mt} (hn : a.length ≤ 9223372036854775807) (hm : ∀ m ∈ a, m.Held) : AV env 336 [.sl (mts a), .sl (mts b), .fn 337 [] []] = some (.sc (.bool (decide (a = b)))) := by
  have hk1 := mts_len a
  have hk2 := mts_len b
  refine AV_wp (F (336, d336) (by simp [lkk])) rfl ?_
  (repeat' first
    | refine w_seq ?_ | refine w_rg ?_ | refine wo_nil ?_ | refine g_skU ?_ | refine g_skT ?_ | refine g_skF ?_
    | ((first | apply s_plain | apply s_void | apply s_guard | apply g_goT | apply g_goF); · simp only [go_sem, Nat.reduceEqDiff, Nat.reduceAdd, Nat.reduceLeDiff, hk1, hk2]; (first | done | rfl))
    | ((first | apply g_T | apply g_F | apply g_gT | apply g_gF); · intro q1_; (first | intro q2_ | have q2_ := q1_); simp only [go_sem, Nat.reduceEqDiff, Nat.reduceAdd, Nat.reduceLeDiff, hk1, hk2, q1_, q2_]; (first | done | rfl))
    | fail
    )
  refine w_condB (by simp only [go_sem, Nat.reduceEqDiff, Nat.reduceAdd, Nat.reduceLeDiff]; first | done | rfl) (fun hc => ?_) (fun hc => ?_)
  · have hf : decide (a = b) = false := decide_eq_false fun h => by rw [h] at hc; simp at hc
    rw [hf]
    (repeat' first
    | refine w_seq ?_ | refine w_rg ?_ | refine wo_nil ?_ | refine g_skU ?_ | refine g_skT ?_ | refine g_skF ?_
    | ((first | apply s_plain | apply s_void | apply s_guard | apply g_goT | apply g_goF); · simp only [go_sem, Nat.reduceEqDiff, Nat.reduceAdd, Nat.reduceLeDiff]; (first | done | rfl))
    | ((first | apply g_T | apply g_F | apply g_gT | apply g_gF); · intro q1_; (first | intro q2_ | have q2_ := q1_); simp only [go_sem, Nat.reduceEqDiff, Nat.reduceAdd, Nat.reduceLeDiff, q1_, q2_]; (first | done | rfl))
    | (apply w_condX; · simp only [go_sem, Nat.reduceEqDiff, Nat.reduceAdd, Nat.reduceLeDiff]; (first | done | rfl)); (first | refine wcd_T ?_ | refine wcd_F ?_)
    | refine w_skip ?_ | refine w_exit ?_ | refine w_ret ?_
    | fail
    )
    exact ⟨by first | exact .inr rfl | exact .inr trivial | exact .inl rfl, by simp only [go_sem, Nat.reduceEqDiff, Nat.reduceAdd, Nat.reduceLeDiff, retOf, resOf]; first | done | rfl⟩
  · have hl : a.length = b.length := by
      simp at hc
      omega
    (repeat' first
    | refine w_seq ?_ | refine w_rg ?_ | refine wo_nil ?_ | refine g_skU ?_ | refine g_skT ?_ | refine g_skF ?_
    | ((first | apply s_plain | apply s_void | apply s_guard | apply g_goT | apply g_goF); · simp only [go_sem, Nat.reduceEqDiff, Nat.reduceAdd, Nat.reduceLeDiff, hk1]; (first | done | rfl))
    | ((first | apply g_T | apply g_F | apply g_gT | apply g_gF); · intro q1_; (first | intro q2_ | have q2_ := q1_); simp only [go_sem, Nat.reduceEqDiff, Nat.reduceAdd, Nat.reduceLeDiff, hk1, q1_, q2_]; (first | done | rfl))
    | (apply w_condX; · simp only [go_sem, Nat.reduceEqDiff, Nat.reduceAdd, Nat.reduceLeDiff, hk1]; (first | done | rfl)); (first | refine wcd_T ?_ | refine wcd_F ?_)
    | refine w_skip ?_ | refine w_exit ?_ | refine w_ret ?_
    | fail
    )
    refine w_block (w_rangeF a.length hn (fun i fr σ => ∀ j, j < i → a[j]? = b[j]?) ⟨by decide, rfl, rfl⟩ (fun _ _ _ _ h => ⟨h, h, h⟩) (fun j hj => by omega) (by simp only [go_sem, Nat.reduceEqDiff, Nat.reduceAdd, Nat.reduceLeDiff]; first | done | rfl) (by simp only [go_sem, Nat.reduceEqDiff, Nat.reduceAdd, Nat.reduceLeDiff, hk1]; first | done | rfl) ?_ ?_)
    · rintro i fr1 σ1 hi h3 hti hfr
      have f0_1 := hfr 1 rfl; have f0_2 := hfr 2 rfl; have f0_15 := hfr 15 rfl; have f0_16 := hfr 16 rfl; try (simp only [go_sem, Nat.reduceEqDiff, Nat.reduceAdd, Nat.reduceLeDiff] at f0_1); try (simp only [go_sem, Nat.reduceEqDiff, Nat.reduceAdd, Nat.reduceLeDiff] at f0_2); try (simp only [go_sem, Nat.reduceEqDiff, Nat.reduceAdd, Nat.reduceLeDiff] at f0_15); try (simp only [go_sem, Nat.reduceEqDiff, Nat.reduceAdd, Nat.reduceLeDiff] at f0_16)
      have hi2 : i < b.length := by omega
      have qa := List.getElem?_eq_getElem hi
      have qb := List.getElem?_eq_getElem hi2
      have hx := mts_at qa
      have hy := mts_at qb
      have e1 : (0 : Int) ≤ (i : Int) ∧ (i : Int) < (a.length : Int) := by omega
      have e2 : (0 : Int) ≤ (i : Int) ∧ (i : Int) < (b.length : Int) := by omega
      have h337 := a337 D F (a := a[i]) (b := b[i]) (hm _ (List.getElem_mem hi)).ws
      unfold mt at hx hy h337
      refine w_block ?_
      (repeat' first
    | refine w_seq ?_ | refine w_rg ?_ | refine wo_nil ?_ | refine g_skU ?_ | refine g_skT ?_ | refine g_skF ?_
    | ((first | apply s_plain | apply s_void | apply s_guard | apply g_goT | apply g_goF); · simp only [go_sem, Nat.reduceEqDiff, Nat.reduceAdd, Nat.reduceLeDiff, f0_1, f0_2, f0_15, f0_16, hti, e1, e2, hk1, hk2, Int.toNat_natCast, hx, hy, h337]; (first | done | rfl))
    | ((first | apply g_T | apply g_F | apply g_gT | apply g_gF); · intro q1_; (first | intro q2_ | have q2_ := q1_); simp only [go_sem, Nat.reduceEqDiff, Nat.reduceAdd, Nat.reduceLeDiff, f0_1, f0_2, f0_15, f0_16, hti, e1, e2, hk1, hk2, Int.toNat_natCast, hx, hy, h337, q1_, q2_]; (first | done | rfl))
    | fail
    )
      by_cases he : a[i] = b[i]
      · have hb : decide (a[i] = b[i]) = true := decide_eq_true he
        (repeat' first
    | refine w_seq ?_ | refine w_rg ?_ | refine wo_nil ?_ | refine g_skU ?_ | refine g_skT ?_ | refine g_skF ?_
    | ((first | apply s_plain | apply s_void | apply s_guard | apply g_goT | apply g_goF); · simp only [go_sem, Nat.reduceEqDiff, Nat.reduceAdd, Nat.reduceLeDiff, hb]; (first | done | rfl))
    | ((first | apply g_T | apply g_F | apply g_gT | apply g_gF); · intro q1_; (first | intro q2_ | have q2_ := q1_); simp only [go_sem, Nat.reduceEqDiff, Nat.reduceAdd, Nat.reduceLeDiff, hb, q1_, q2_]; (first | done | rfl))
    | (apply w_condX; · simp only [go_sem, Nat.reduceEqDiff, Nat.reduceAdd, Nat.reduceLeDiff, hb]; (first | done | rfl)); (first | refine wcd_T ?_ | refine wcd_F ?_)
    | refine w_skip ?_ | refine w_exit ?_ | refine w_ret ?_
    | fail
    )
        intro j hj
        by_cases hji : j = i
        · rw [hji, qa, qb, he]
        · exact h3 j (by omega)
      · have hb : decide (a[i] = b[i]) = false := decide_eq_false he
        have hne : decide (a = b) = false := decide_eq_false fun hh => he (by simp [hh])
        rw [hne]
        (repeat' first
    | refine w_seq ?_ | refine w_rg ?_ | refine wo_nil ?_ | refine g_skU ?_ | refine g_skT ?_ | refine g_skF ?_
    | ((first | apply s_plain | apply s_void | apply s_guard | apply g_goT | apply g_goF); · simp only [go_sem, Nat.reduceEqDiff, Nat.reduceAdd, Nat.reduceLeDiff, hb]; (first | done | rfl))
    | ((first | apply g_T | apply g_F | apply g_gT | apply g_gF); · intro q1_; (first | intro q2_ | have q2_ := q1_); simp only [go_sem, Nat.reduceEqDiff, Nat.reduceAdd, Nat.reduceLeDiff, hb, q1_, q2_]; (first | done | rfl))
    | (apply w_condX; · simp only [go_sem, Nat.reduceEqDiff, Nat.reduceAdd, Nat.reduceLeDiff, hb]; (first | done | rfl)); (first | refine wcd_T ?_ | refine wcd_F ?_)
    | refine w_skip ?_ | refine w_exit ?_ | refine w_ret ?_
    | fail
    )
        exact ⟨by first | exact .inr rfl | exact .inr trivial | exact .inl rfl, by simp only [go_sem, Nat.reduceEqDiff, Nat.reduceAdd, Nat.reduceLeDiff, retOf, resOf]; first | done | rfl⟩
    · rintro fr1 σ1 h3 hfr
      skip
      try simp only [if_true]
      have heq : a = b := List.ext_getElem? fun i => by
        by_cases hi : i < a.length
        · exact h3 i hi
        · rw [List.getElem?_eq_none (by omega), List.getElem?_eq_none (by omega)]
      rw [decide_eq_true heq]
      (repeat' first
    | refine w_seq ?_ | refine w_rg ?_ | refine wo_nil ?_ | refine g_skU ?_ | refine g_skT ?_ | refine g_skF ?_
    | ((first | apply s_plain | apply s_void | apply s_guard | apply g_goT | apply g_goF); · simp only [go_sem, Nat.reduceEqDiff, Nat.reduceAdd, Nat.reduceLeDiff]; (first | done | rfl))
    | ((first | apply g_T | apply g_F | apply g_gT | apply g_gF); · intro q1_; (first | intro q2_ | have q2_ := q1_); simp only [go_sem, Nat.reduceEqDiff, Nat.reduceAdd, Nat.reduceLeDiff, q1_, q2_]; (first | done | rfl))
    | (apply w_condX; · simp only [go_sem, Nat.reduceEqDiff, Nat.reduceAdd, Nat.reduceLeDiff]; (first | done | rfl)); (first | refine wcd_T ?_ | refine wcd_F ?_)
    | refine w_skip ?_ | refine w_exit ?_ | refine w_ret ?_
    | fail
    )
      exact ⟨by first | exact .inr rfl | exact .inr trivial | exact .inl rfl, by simp only [go_sem, Nat.reduceEqDiff, Nat.reduceAdd, Nat.reduceLeDiff, retOf, resOf]; first | done | rfl⟩
theorem a338 (F : Has lkk env) {a b : List Rt} (hn : a.length ≤ 9223372036854775807) (hr : ∀ x ∈ a, ∀ y, AV env 332 [rt x, rt y] = some (.sc (.bool (likeT x y)))) : AV env 338 [.sl (rts a), .sl (rts b), .fn 332 [] []] = some (.sc (.bool (likeLs a b))) := by
  have hk1 := rts_len a
  have hk2 := rts_len b
  refine AV_wp (F (338, d338) (by simp [lkk])) rfl ?_
  (repeat' first
    | refine w_seq ?_ | refine w_rg ?_ | refine wo_nil ?_ | refine g_skU ?_ | refine g_skT ?_ | refine g_skF ?_
    | ((first | apply s_plain | apply s_void | apply s_guard | apply g_goT | apply g_goF); · simp only [go_sem, Nat.reduceEqDiff, Nat.reduceAdd, Nat.reduceLeDiff, hk1, hk2]; (first | done | rfl))
    | ((first | apply g_T | apply g_F | apply g_gT | apply g_gF); · intro q1_; (first | intro q2_ | have q2_ := q1_); simp only [go_sem, Nat.reduceEqDiff, Nat.reduceAdd, Nat.reduceLeDiff, hk1, hk2, q1_, q2_]; (first | done | rfl))
    | fail
    )
  refine w_condB (by simp only [go_sem, Nat.reduceEqDiff, Nat.reduceAdd, Nat.reduceLeDiff]; first | done | rfl) (fun hc => ?_) (fun hc => ?_)
  · have hf : likeLs a b = false := likeLs_len _ _ fun h => by rw [h] at hc; simp at hc
    rw [hf]
    (repeat' first
    | refine w_seq ?_ | refine w_rg ?_ | refine wo_nil ?_ | refine g_skU ?_ | refine g_skT ?_ | refine g_skF ?_
    | ((first | apply s_plain | apply s_void | apply s_guard | apply g_goT | apply g_goF); · simp only [go_sem, Nat.reduceEqDiff, Nat.reduceAdd, Nat.reduceLeDiff]; (first | done | rfl))
    | ((first | apply g_T | apply g_F | apply g_gT | apply g_gF); · intro q1_; (first | intro q2_ | have q2_ := q1_); simp only [go_sem, Nat.reduceEqDiff, Nat.reduceAdd, Nat.reduceLeDiff, q1_, q2_]; (first | done | rfl))
    | (apply w_condX; · simp only [go_sem, Nat.reduceEqDiff, Nat.reduceAdd, Nat.reduceLeDiff]; (first | done | rfl)); (first | refine wcd_T ?_ | refine wcd_F ?_)
    | refine w_skip ?_ | refine w_exit ?_ | refine w_ret ?_
    | fail
    )
    exact ⟨by first | exact .inr rfl | exact .inr trivial | exact .inl rfl, by simp only [go_sem, Nat.reduceEqDiff, Nat.reduceAdd, Nat.reduceLeDiff, retOf, resOf]; first | done | rfl⟩
  · have hl : a.length = b.length := by
      simp at hc
      omega
    (repeat' first
    | refine w_seq ?_ | refine w_rg ?_ | refine wo_nil ?_ | refine g_skU ?_ | refine g_skT ?_ | refine g_skF ?_
    | ((first | apply s_plain | apply s_void | apply s_guard | apply g_goT | apply g_goF); · simp only [go_sem, Nat.reduceEqDiff, Nat.reduceAdd, Nat.reduceLeDiff, hk1]; (first | done | rfl))
    | ((first | apply g_T | apply g_F | apply g_gT | apply g_gF); · intro q1_; (first | intro q2_ | have q2_ := q1_); simp only [go_sem, Nat.reduceEqDiff, Nat.reduceAdd, Nat.reduceLeDiff, hk1, q1_, q2_]; (first | done | rfl))
    | (apply w_condX; · simp only [go_sem, Nat.reduceEqDiff, Nat.reduceAdd, Nat.reduceLeDiff, hk1]; (first | done | rfl)); (first | refine wcd_T ?_ | refine wcd_F ?_)
    | refine w_skip ?_ | refine w_exit ?_ | refine w_ret ?_
    | fail
    )
    refine w_block (w_rangeF a.length hn (fun i fr σ => ∀ j (q1 : j < a.length) (q2 : j < b.length), j < i → likeT a[j] b[j] = true) ⟨by decide, rfl, rfl⟩ (fun _ _ _ _ h => ⟨h, h, h⟩) (fun j _ _ hj => by omega) (by simp only [go_sem, Nat.reduceEqDiff, Nat.reduceAdd, Nat.reduceLeDiff]; first | done | rfl) (by simp only [go_sem, Nat.reduceEqDiff, Nat.reduceAdd, Nat.reduceLeDiff, hk1]; first | done | rfl) ?_ ?_)
    · rintro i fr1 σ1 hi h3 hti hfr
      have f0_1 := hfr 1 rfl; have f0_2 := hfr 2 rfl; have f0_15 := hfr 15 rfl; have f0_16 := hfr 16 rfl; try (simp only [go_sem, Nat.reduceEqDiff, Nat.reduceAdd, Nat.reduceLeDiff] at f0_1); try (simp only [go_sem, Nat.reduceEqDiff, Nat.reduceAdd, Nat.reduceLeDiff] at f0_2); try (simp only [go_sem, Nat.reduceEqDiff, Nat.reduceAdd, Nat.reduceLeDiff] at f0_15); try (simp only [go_sem, Nat.reduceEqDiff, Nat.reduceAdd, Nat.reduceLeDiff] at f0_16)
      have hi2 : i < b.length := by omega
      have qa := List.getElem?_eq_getElem hi
      have qb := List.getElem?_eq_getElem hi2
      have hx := rts_at qa
      have hy := rts_at qb
      have e1 : (0 : Int) ≤ (i : Int) ∧ (i : Int) < (a.length : Int) := by omega
      have e2 : (0 : Int) ≤ (i : Int) ∧ (i : Int) < (b.length : Int) := by omega
      have hrec := hr _ (List.getElem_mem hi) b[i]
      rw [rt_eq] at hx hy
      rw [rt_eq, rt_eq] at hrec
      unfold rhd at hx hy hrec
      refine w_block ?_
      (repeat' first
    | refine w_seq ?_ | refine w_rg ?_ | refine wo_nil ?_ | refine g_skU ?_ | refine g_skT ?_ | refine g_skF ?_
    | ((first | apply s_plain | apply s_void | apply s_guard | apply g_goT | apply g_goF); · simp only [go_sem, Nat.reduceEqDiff, Nat.reduceAdd, Nat.reduceLeDiff, f0_1, f0_2, f0_15, f0_16, hti, e1, e2, hk1, hk2, Int.toNat_natCast, hx, hy, hrec, List.set_cons_succ]; (first | done | rfl))
    | ((first | apply g_T | apply g_F | apply g_gT | apply g_gF); · intro q1_; (first | intro q2_ | have q2_ := q1_); simp only [go_sem, Nat.reduceEqDiff, Nat.reduceAdd, Nat.reduceLeDiff, f0_1, f0_2, f0_15, f0_16, hti, e1, e2, hk1, hk2, Int.toNat_natCast, hx, hy, hrec, List.set_cons_succ, q1_, q2_]; (first | done | rfl))
    | fail
    )
      cases hb : likeT a[i] b[i] with
      | true =>
        (repeat' first
    | refine w_seq ?_ | refine w_rg ?_ | refine wo_nil ?_ | refine g_skU ?_ | refine g_skT ?_ | refine g_skF ?_
    | ((first | apply s_plain | apply s_void | apply s_guard | apply g_goT | apply g_goF); · simp only [go_sem, Nat.reduceEqDiff, Nat.reduceAdd, Nat.reduceLeDiff, hb]; (first | done | rfl))
    | ((first | apply g_T | apply g_F | apply g_gT | apply g_gF); · intro q1_; (first | intro q2_ | have q2_ := q1_); simp only [go_sem, Nat.reduceEqDiff, Nat.reduceAdd, Nat.reduceLeDiff, hb, q1_, q2_]; (first | done | rfl))
    | (apply w_condX; · simp only [go_sem, Nat.reduceEqDiff, Nat.reduceAdd, Nat.reduceLeDiff, hb]; (first | done | rfl)); (first | refine wcd_T ?_ | refine wcd_F ?_)
    | refine w_skip ?_ | refine w_exit ?_ | refine w_ret ?_
    | fail
    )
        intro j q1 q2 hj
        by_cases hji : j = i
        · subst hji; exact hb
        · exact h3 j q1 q2 (by omega)
      | false =>
        have hne : likeLs a b = false := by
          cases hL : likeLs a b with
          | false => rfl
          | true => rw [(likeLs_get _ _ hl).1 hL i hi hi2] at hb; cases hb
        rw [hne]
        (repeat' first
    | refine w_seq ?_ | refine w_rg ?_ | refine wo_nil ?_ | refine g_skU ?_ | refine g_skT ?_ | refine g_skF ?_
    | ((first | apply s_plain | apply s_void | apply s_guard | apply g_goT | apply g_goF); · simp only [go_sem, Nat.reduceEqDiff, Nat.reduceAdd, Nat.reduceLeDiff, hb]; (first | done | rfl))
    | ((first | apply g_T | apply g_F | apply g_gT | apply g_gF); · intro q1_; (first | intro q2_ | have q2_ := q1_); simp only [go_sem, Nat.reduceEqDiff, Nat.reduceAdd, Nat.reduceLeDiff, hb, q1_, q2_]; (first | done | rfl))
    | (apply w_condX; · simp only [go_sem, Nat.reduceEqDiff, Nat.reduceAdd, Nat.reduceLeDiff, hb]; (first | done | rfl)); (first | refine wcd_T ?_ | refine wcd_F ?_)
    | refine w_skip ?_ | refine w_exit ?_ | refine w_ret ?_
    | fail
    )
        exact ⟨by first | exact .inr rfl | exact .inr trivial | exact .inl rfl, by simp only [go_sem, Nat.reduceEqDiff, Nat.reduceAdd, Nat.reduceLeDiff, retOf, resOf]; first | done | rfl⟩
    · rintro fr1 σ1 h3 hfr
      skip
      try simp only [if_true]
      have hL : likeLs a b = true := (likeLs_get _ _ hl).2 fun i q1 q2 => h3 i q1 q2 q1
      rw [hL]
      (repeat' first
    | refine w_seq ?_ | refine w_rg ?_ | refine wo_nil ?_ | refine g_skU ?_ | refine g_skT ?_ | refine g_skF ?_
    | ((first | apply s_plain | apply s_void | apply s_guard | apply g_goT | apply g_goF); · simp only [go_sem, Nat.reduceEqDiff, Nat.reduceAdd, Nat.reduceLeDiff]; (first | done | rfl))
    | ((first | apply g_T | apply g_F | apply g_gT | apply g_gF); · intro q1_; (first | intro q2_ | have q2_ := q1_); simp only [go_sem, Nat.reduceEqDiff, Nat.reduceAdd, Nat.reduceLeDiff, q1_, q2_]; (first | done | rfl))
    | (apply w_condX; · simp only [go_sem, Nat.reduceEqDiff, Nat.reduceAdd, Nat.reduceLeDiff]; (first | done | rfl)); (first | refine wcd_T ?_ | refine wcd_F ?_)
    | refine w_skip ?_ | refine w_exit ?_ | refine w_ret ?_
    | fail
    )
      exact ⟨by first | exact .inr rfl | exact .inr trivial | exact .inl rfl, by simp only [go_sem, Nat.reduceEqDiff, Nat.reduceAdd, Nat.reduceLeDiff, retOf, resOf]; first | done | rfl⟩
theorem a332 (D : Has lhe env) (F : Has lkk env) : ∀ (a : Rt), a.Held → ∀ b : Rt, AV env 332 [rt a, rt b] = some (.sc (.bool (likeT a b))) := by
  refine Rt.induct fun h ks ih => ?_
  intro hr b
  obtain ⟨_, _, hh, hkl, hkh⟩ := hr
  obtain ⟨h', ks'⟩ := b
  have h336 := a336 D F (a := h.ms) (b := h'.ms) hh.ms hh.mss
  have h338 := a338 F (a := ks) (b := ks') hkl (fun x hx y => ih x hx (hkh x hx) y)
  have h35a := a35 D (a := h.bys) (b := h'.bys) hh.bys
  have h35b := a35 D (a := h.mute) (b := h'.mute) hh.mute
  have e : likeT (.mk h ks) (.mk h' ks') = ((((((((decide (h.recv = h'.recv) && (h.wait == h'.wait)) && (h.every == h'.every)) && (h.rep == h'.rep)) && (h.on == h'.on)) && decide (h.ms = h'.ms)) && decide (h.bys = h'.bys)) && decide (h.mute = h'.mute)) && likeLs ks ks') := by
    rw [likeT_mk]
    congr 1
    obtain ⟨r1, m1, b1, w1, e1, p1, u1, o1⟩ := h
    obtain ⟨r2, m2, b2, w2, e2, p2, u2, o2⟩ := h'
    rw [Bool.eq_iff_iff]
    simp only [decide_eq_true_eq, Bool.and_eq_true, beq_iff_eq, Rh.mk.injEq]
    constructor
    · rintro ⟨rfl, rfl, rfl, rfl, rfl, rfl, rfl, rfl⟩; simp
    · rintro ⟨⟨⟨⟨⟨⟨⟨rfl, rfl⟩, rfl⟩, rfl⟩, rfl⟩, rfl⟩, rfl⟩, rfl⟩; simp
  refine AV_wp (F (332, d332) (by simp [lkk])) rfl ?_
  rw [rt, rt]
  unfold rhd
  have hbn : ((h.on == h'.on) != false) = (h.on == h'.on) := by cases h.on <;> cases h'.on <;> rfl
  (repeat' first
    | refine w_seq ?_ | refine w_rg ?_ | refine wo_nil ?_ | refine g_skU ?_ | refine g_skT ?_ | refine g_skF ?_
    | ((first | apply s_plain | apply s_void | apply s_guard | apply g_goT | apply g_goF); · simp only [go_sem, Nat.reduceEqDiff, Nat.reduceAdd, Nat.reduceLeDiff, ba_beq, h336, h35a, h35b, h338]; (first | done | rfl))
    | ((first | apply g_T | apply g_F | apply g_gT | apply g_gF); · intro q1_; (first | intro q2_ | have q2_ := q1_); simp only [go_sem, Nat.reduceEqDiff, Nat.reduceAdd, Nat.reduceLeDiff, ba_beq, h336, h35a, h35b, h338, q1_, q2_]; (first | done | rfl))
    | (apply w_condX; · simp only [go_sem, Nat.reduceEqDiff, Nat.reduceAdd, Nat.reduceLeDiff, ba_beq, h336, h35a, h35b, h338]; (first | done | rfl)); (first | refine wcd_T ?_ | refine wcd_F ?_)
    | refine w_skip ?_ | refine w_exit ?_ | refine w_ret ?_
    | fail
    )
  exact ⟨by first | exact .inr rfl | exact .inr trivial | exact .inl rfl, by simp only [go_sem, Nat.reduceEqDiff, Nat.reduceAdd, Nat.reduceLeDiff, retOf, resOf, e, hbn]; first | done | rfl⟩
theorem a333 (F : Has lkk env) : ∀ (r : Rt), r.Held → cntR r ≤ 1000000 → AV env 333 [rt r] = some (.sc (.int .i64 (cntR r : Int))) := by
  refine Rt.induct fun h ks ih => ?_
  intro hr hc
  obtain ⟨_, _, hh, hkl, hkh⟩ := hr
  have hkl' := rts_len ks
  rw [cntR_mk] at hc ⊢
  refine AV_wp (F (333, d333) (by simp [lkk])) rfl ?_
  rw [rt]
  unfold rhd
  (repeat' first
    | refine w_seq ?_ | refine w_rg ?_ | refine wo_nil ?_ | refine g_skU ?_ | refine g_skT ?_ | refine g_skF ?_
    | ((first | apply s_plain | apply s_void | apply s_guard | apply g_goT | apply g_goF); · simp only [go_sem, Nat.reduceEqDiff, Nat.reduceAdd, Nat.reduceLeDiff, hkl']; (first | done | rfl))
    | ((first | apply g_T | apply g_F | apply g_gT | apply g_gF); · intro q1_; (first | intro q2_ | have q2_ := q1_); simp only [go_sem, Nat.reduceEqDiff, Nat.reduceAdd, Nat.reduceLeDiff, hkl', q1_, q2_]; (first | done | rfl))
    | fail
    )
  refine w_block (w_rangeF ks.length hkl (fun i fr σ => fr 3 = .sc (.int .i64 ((1 + cntL (ks.take i) : Nat) : Int))) ⟨by decide, rfl, rfl⟩ ?_ ?_ (by simp only [go_sem, Nat.reduceEqDiff, Nat.reduceAdd, Nat.reduceLeDiff]; first | done | rfl) (by simp only [go_sem, Nat.reduceEqDiff, Nat.reduceAdd, Nat.reduceLeDiff, hkl']; first | done | rfl) ?_ ?_)
  · rintro i fr1 σ1 v h5
    refine ⟨?_, ?_, ?_⟩ <;> simp only [go_sem, Nat.reduceEqDiff, Nat.reduceAdd, Nat.reduceLeDiff, h5]
  · rw [List.take_zero, cntL]
    simp only [go_sem, Nat.reduceEqDiff, Nat.reduceAdd, Nat.reduceLeDiff]
    rfl
  · rintro i fr1 σ1 hi h5 hti hfr
    have f0_7 := hfr 7 rfl; have f0_8 := hfr 8 rfl; try (simp only [go_sem, Nat.reduceEqDiff, Nat.reduceAdd, Nat.reduceLeDiff] at f0_7); try (simp only [go_sem, Nat.reduceEqDiff, Nat.reduceAdd, Nat.reduceLeDiff] at f0_8)
    have hx := List.getElem?_eq_getElem hi
    have hy := rts_at hx
    rw [rt_eq] at hy
    have e1 : (0 : Int) ≤ (i : Int) ∧ (i : Int) < (ks.length : Int) := by omega
    have hcnt0 := cntL_take hi
    have hcnt1 := cntL_take_le ks (i + 1)
    have hrec := ih _ (List.getElem_mem hi) (hkh _ (List.getElem_mem hi)) (by omega)
    generalize ks[i] = k at hx hy hcnt0 hrec
    have e4 : IntKind.i64.wrap (((1 + cntL (ks.take i) : Nat) : Int) + (cntR k : Int)) = ((1 + cntL (ks.take (i + 1)) : Nat) : Int) := by rw [IntKind.wrap_i64]; omega
    rw [rt_eq] at hrec
    unfold rhd at hy hrec
    refine w_block ?_
    (repeat' first
    | refine w_seq ?_ | refine w_rg ?_ | refine wo_nil ?_ | refine g_skU ?_ | refine g_skT ?_ | refine g_skF ?_
    | ((first | apply s_plain | apply s_void | apply s_guard | apply g_goT | apply g_goF); · simp only [go_sem, Nat.reduceEqDiff, Nat.reduceAdd, Nat.reduceLeDiff, f0_7, f0_8, hti, e1, hkl', Int.toNat_natCast, hy, h5, hrec, e4, List.set_cons_succ]; (first | done | rfl))
    | ((first | apply g_T | apply g_F | apply g_gT | apply g_gF); · intro q1_; (first | intro q2_ | have q2_ := q1_); simp only [go_sem, Nat.reduceEqDiff, Nat.reduceAdd, Nat.reduceLeDiff, f0_7, f0_8, hti, e1, hkl', Int.toNat_natCast, hy, h5, hrec, e4, List.set_cons_succ, q1_, q2_]; (first | done | rfl))
    | fail
    )
    simp only [go_sem, Nat.reduceEqDiff, Nat.reduceAdd, Nat.reduceLeDiff]
  · rintro fr1 σ1 h5 hfr
    have e0_2 := hfr 2 rfl; try (simp only [go_sem, Nat.reduceEqDiff, Nat.reduceAdd, Nat.reduceLeDiff] at e0_2)
    try simp only [if_true]
    rw [List.take_length] at h5
    (repeat' first
    | refine w_seq ?_ | refine w_rg ?_ | refine wo_nil ?_ | refine g_skU ?_ | refine g_skT ?_ | refine g_skF ?_
    | ((first | apply s_plain | apply s_void | apply s_guard | apply g_goT | apply g_goF); · simp only [go_sem, Nat.reduceEqDiff, Nat.reduceAdd, Nat.reduceLeDiff, h5]; (first | done | rfl))
    | ((first | apply g_T | apply g_F | apply g_gT | apply g_gF); · intro q1_; (first | intro q2_ | have q2_ := q1_); simp only [go_sem, Nat.reduceEqDiff, Nat.reduceAdd, Nat.reduceLeDiff, h5, q1_, q2_]; (first | done | rfl))
    | (apply w_condX; · simp only [go_sem, Nat.reduceEqDiff, Nat.reduceAdd, Nat.reduceLeDiff, h5]; (first | done | rfl)); (first | refine wcd_T ?_ | refine wcd_F ?_)
    | refine w_skip ?_ | refine w_exit ?_ | refine w_ret ?_
    | fail
    )
    exact ⟨by first | exact .inr rfl | exact .inr trivial | exact .inl rfl, by simp only [go_sem, Nat.reduceEqDiff, Nat.reduceAdd, Nat.reduceLeDiff, retOf, resOf]; first | done | rfl⟩
end

end
section
section
variable (l : List Lab)
theorem findR_ne : ∀ (r : Rt) (p : ByteArray), findR l r p ≠ [] := by
  refine Rt.induct fun h ks ih p => ?_
  rw [findR_mk]
  split
  · rename_i ha
    have : ∀ (ks : List Rt) (i : Nat), (∀ k ∈ ks, ∀ p, findR l k p ≠ []) → ks.any (fun k => holdsA l k.h.ms) = true → findL l ks p i ≠ [] := by
      intro ks
      induction ks with
      | nil => intro i _ h; simp at h
      | cons k r ih2 =>
        intro i hi ha
        rw [findL_cons]
        split
        · intro h
          exact hi k (by simp) _ (List.append_eq_nil_iff.1 h).1
        · rename_i hk
          rw [List.any_cons, show holdsA l k.h.ms = false from by simpa using hk, Bool.false_or] at ha
          exact ih2 (i + 1) (fun x hx => hi x (by simp [hx])) ha
    exact this ks 0 ih ha
  · simp
theorem findL_all {P : ByteArray × Rh → Prop} (p : ByteArray) : ∀ (ks : List Rt) (i : Nat), (∀ (j : Nat) k, ks[j]? = some k → holdsA l k.h.ms = true → ∀ q ∈ findR l k (stepP p (i + j)), P q) → ∀ q ∈ findL l ks p i, P q
  | [], i, _, q, hq => by rw [findL_nil] at hq; simp at hq
  | k :: r, i, h, q, hq => by
    have hr := findL_all p r (i + 1) fun j x hx hh y hy => h (j + 1) x (by simpa using hx) hh y (by rw [show i + (j + 1) = i + 1 + j by omega]; exact hy)
    rw [findL_cons] at hq
    split at hq
    · rename_i hk
      rcases List.mem_append.1 hq with hq | hq
      · exact h 0 k rfl hk q hq
      · split at hq
        · exact hr q hq
        · simp at hq
    · exact hr q hq
theorem mayR_kid {d : Nat} {r : Rt} (h : mayR d r = true) : ∃ e, d = e + 1 ∧ headR r.h r.ks.length = true ∧ r.ks.all (mayR e) = true := by
  cases d with
  | zero => simp [mayR] at h
  | succ d =>
    have : mayR (d + 1) r = (headR r.h r.ks.length && r.ks.all (mayR d)) := rfl
    rw [this, Bool.and_eq_true] at h
    exact ⟨d, rfl, h⟩
theorem head_0 {h : Rh} {k : Nat} (hh : headR h k = true) : headR h 0 = true := by
  unfold headR at hh ⊢
  simp only [Bool.and_eq_true, Bool.not_eq_true', Bool.or_eq_false_iff, decide_eq_false_iff_not] at hh ⊢
  obtain ⟨⟨⟨⟨⟨⟨⟨a, b⟩, c⟩, _⟩, d⟩, e⟩, f⟩, g⟩ := hh
  exact ⟨⟨⟨⟨⟨⟨⟨a, b⟩, c⟩, by omega⟩, d⟩, e⟩, f⟩, g⟩
theorem head_16 {h : Rh} {k : Nat} (hh : headR h k = true) : k ≤ 16 := by
  unfold headR at hh
  simp only [Bool.and_eq_true, Bool.not_eq_true', Bool.or_eq_false_iff, decide_eq_false_iff_not] at hh
  omega
theorem findR_may : ∀ (r : Rt) (d : Nat), mayR d r = true → ∀ (p : ByteArray), ∀ q ∈ findR l r p, headR q.2 0 = true ∧ q.1.size ≤ p.size + 3 * d := by
  refine Rt.induct fun h ks ih d hm p => ?_
  obtain ⟨e, rfl, hh, hk⟩ := mayR_kid hm
  rw [findR_mk]
  split
  · refine findL_all l p ks 0 fun j k hj _ q hq => ?_
    have hkm := List.mem_of_getElem? hj
    have hlt := (List.getElem?_eq_some_iff.1 hj).1
    have := head_16 hh
    obtain ⟨h1, h2⟩ := ih k hkm e (List.all_eq_true.1 hk k hkm) (stepP p (0 + j)) q hq
    have := stepP_size p (show 0 + j < 16 by simp only [Rt.ks] at *; omega)
    exact ⟨h1, by omega⟩
  · intro q hq
    simp only [List.mem_singleton] at hq
    subst hq
    exact ⟨head_0 hh, by simp⟩
theorem findR_held : ∀ (r : Rt), r.Held → ∀ (p : ByteArray), ∀ q ∈ findR l r p, q.2.Held := by
  refine Rt.induct fun h ks ih hr p => ?_
  obtain ⟨_, _, hh, _, hk⟩ := hr
  rw [findR_mk]
  split
  · exact findL_all l p ks 0 fun j k hj _ q hq => ih k (List.mem_of_getElem? hj) (hk k (List.mem_of_getElem? hj)) _ q hq
  · intro q hq
    simp only [List.mem_singleton] at hq
    subst hq
    exact hh
/-! No path twice. -/
end

end
section
attribute [local go_sem ↓] e_mv e_pick e_bin e_eqs e_beq e_un e_cvi e_str e_s2b e_b2s e_box e_build e_bsl e_ld e_st e_nck e_mkf e_slcS e_slcL e_fa e_fld e_ia e_iaa e_ix e_ixa e_ext e_lenS e_lenL e_mnmx e_app e_appb e_bbx e_msl e_clr e_call e_callv e_icall e_slcA e_mkm e_mput e_mget e_mlen e_mdel pa_t pa_c pa_f slcSP_str hiOf_some hiOf_none loOf_some loOf_none set_eq set_ne
attribute [local go_sem] pv pv1 simple frOf_0 frOf_1 frOf_2 frOf_3 frOf_4 frOf_5 ne_eq not_false_eq_true if_true Bool.false_eq_true if_false pbin punary Option.map_some Option.bind_some pick_and pick_or opt_true Bool.true_and Bool.and_self Bool.and_true Bool.true_or Bool.false_or Bool.not_true Bool.not_false callE pcall_eq List.map_cons List.map_nil List.append_nil List.nil_append List.cons_append mapM_cons' mapM_nil' dep_eq fz_sc fz_sl fz_em fz_fn fz_fp fz_agg fz_tu fz_bx fz_ob Nat.lt_irrefl Nat.zero_lt_one Nat.lt_add_one flat clL cl Bool.or_true okc_sc okc_em okc_sl okc_ob okc_bx okc_fp okc_fn okc_agg okc_ifc cells_agg cells_sc cells_sl cells_em cells_ob cells_fn cells_bx cells_fp List.length_cons List.length_nil Nat.zero_add and_self true_and and_true new_m new_c put_m put_c nil_m nil_c nil_mm new_mm put_mm newM_m newM_c newM_mm putM_m putM_c putM_mm mkeyV_1 mkeyV_2 mapAt_eq deref List.getElem?_cons_zero List.getElem?_cons_succ List.drop_zero List.drop_succ_cons List.take_succ_cons List.take_zero Nat.le_refl false_and and_false decide_true decide_false lenP_em lenP_nil lenP_sl lenP_ob Int.ofNat_zero splice fillP fillE List.modify_zero_cons List.replicate_succ List.replicate_zero List.set_cons_zero List.drop_zero ba_data ba_size ba_toList ba_extract ba_append List.toList_toArray
def d334 : Def := (.code 3 [.tmp 6] (.seq (.rg false [⟨.some 3, .none, .box (.t 0)⟩, ⟨.some 6, .none, .mv (.c (.slice .none 0 0))⟩]) (.seq (.rg false [⟨.some 10, .none, .mv (.c (.slice .none 0 0))⟩, ⟨.some 7, .none, .mv (.t 10)⟩]) (.seq (.seq (.rg false [⟨.some 11, .none, .fa 8 (.t 3)⟩, ⟨.some 12, .none, .ld .none (.t 11)⟩, ⟨.some 13, .none, .lenL (.t 12)⟩, ⟨.some 14, .none, .mv (.c (.int .i64 0))⟩]) (.block 0 (.loop (.seq (.rg false [⟨.some 15, .none, .bin .lss (.t 14) (.t 13)⟩]) (.seq (.cond (.t 15) .skip (.exit 0)) (.seq (.block 1 (.seq (.rg false [⟨.some 16, .none, .mv (.t 14)⟩, ⟨.some 17, .none, .ia 9 (.t 12) (.t 14)⟩, ⟨.some 18, .none, .ld (.some 9) (.t 17)⟩, ⟨.some 9, .none, .box (.c (.agg #[.string ⟨#[]⟩, .slice .none 0 0, .slice .none 0 0, .int .i64 0, .int .i64 0, .int .i64 0, .slice .none 0 0, .bool false, .slice .none 0 0]))⟩, ⟨.some 8, .none, .mv (.t 16)⟩, ⟨.none, .none, .st 9 (.t 9) (.t 18)⟩]) (.seq (.rg false [⟨.some 19, .none, .mv (.t 2)⟩, ⟨.some 20, .none, .fa 1 (.t 9)⟩, ⟨.some 21, .none, .ld .none (.t 20)⟩, ⟨.some 22, .none, .call 339 .pure [.t 19, .t 21]⟩]) (.cond (.t 22) (.seq (.rg true [⟨.some 23, .none, .mv (.t 7)⟩, ⟨.some 24, .none, .ld (.some 9) (.t 9)⟩, ⟨.some 25, .none, .mv (.t 1)⟩, ⟨.some 26, .none, .bin .add (.t 25) (.c (.string ⟨#[46]⟩))⟩, ⟨.some 27, .none, .mv (.t 8)⟩, ⟨.some 28, .none, .call 203 .strict [.t 27]⟩, ⟨.some 29, .none, .bin .add (.t 26) (.t 28)⟩, ⟨.some 30, .none, .mv (.t 2)⟩, ⟨.some 31, .none, .call 334 .strict [.t 24, .t 29, .t 30]⟩, ⟨.some 32, .none, .app 10 160 false (.t 23) (.t 31)⟩, ⟨.some 7, .none, .mv (.t 32)⟩]) (.seq (.rg false [⟨.some 33, .none, .fa 7 (.t 9)⟩, ⟨.some 34, .none, .ld .none (.t 33)⟩, ⟨.some 35, .none, .un .not (.t 34)⟩]) (.cond (.t 35) (.seq (.rg false [⟨.some 36, .none, .mv (.t 7)⟩, ⟨.some 6, .none, .mv (.t 36)⟩]) .ret) .skip))) .skip)))) (.rg false [⟨.some 37, .none, .bin .add (.t 14) (.c (.int .i64 1))⟩, ⟨.some 14, .none, .mv (.t 37)⟩]))))))) (.seq (.seq (.rg false [⟨.some 38, .none, .mv (.t 7)⟩, ⟨.some 39, .none, .lenL (.t 38)⟩, ⟨.some 40, .none, .bin .eql (.t 39) (.c (.int .i64 0))⟩]) (.cond (.t 40) (.seq (.rg false [⟨.some 41, .none, .fa 8 (.t 3)⟩, ⟨.none, .none, .st 1 (.t 41) (.c (.slice .none 0 0))⟩]) (.rg false [⟨.some 42, .none, .mv (.t 7)⟩, ⟨.some 43, .none, .mv (.t 1)⟩, ⟨.some 44, .none, .ld (.some 9) (.t 3)⟩, ⟨.some 45, .none, .build (.agg #[.string ⟨#[]⟩, .string ⟨#[]⟩, .slice .none 0 0, .slice .none 0 0, .int .i64 0, .int .i64 0, .int .i64 0, .slice .none 0 0, .bool false, .slice .none 0 0]) [(0, (1, .t 43)), (1, (9, .t 44))]⟩, ⟨.some 46, .none, .bsl 10 (.agg #[.string ⟨#[]⟩, .string ⟨#[]⟩, .slice .none 0 0, .slice .none 0 0, .int .i64 0, .int .i64 0, .int .i64 0, .slice .none 0 0, .bool false, .slice .none 0 0]) 1 [(0, .t 45)]⟩, ⟨.some 47, .none, .app 10 160 false (.t 42) (.t 46)⟩, ⟨.some 7, .none, .mv (.t 47)⟩])) .skip)) (.seq (.rg false [⟨.some 48, .none, .mv (.t 7)⟩, ⟨.some 6, .none, .mv (.t 48)⟩]) .ret))))))
def lkm : List (Nat × Def) := [(334, d334)]
section
variable {env : Nat → Option Def} {fr : Fr} {σ σ' σ'' : St} {K : Fr → St → Prop} {Q : X → Fr → St → Prop} {p : PV} {bs : List UInt8}
theorem tgFs_append (a b : List (ByteArray × Rh)) : tgFs (a ++ b) = tgFs a ++ tgFs b := by simp [tgFs]
theorem tgFs_all (l : List (ByteArray × Rh)) : ((tgFs l).all fun y => okc y && (cellsOf y).length == 10) = true := by
  rw [List.all_eq_true]
  intro y hy
  unfold tgFs at hy
  obtain ⟨r, _, rfl⟩ := List.mem_map.1 hy
  rfl
theorem tgFs_fz (σ : St) (d : Nat) (l : List (ByteArray × Rh)) : (tgFs l).mapM (fz σ (d + 2)) = some (tgFs l) := by
  induction l with
  | nil => rfl
  | cons m r ih =>
    show List.mapM (fz σ (d + 2)) (tgF m :: tgFs r) = _
    rw [mapM_cons', ih]
    rfl
theorem a334 (D : Mm9 env) (A : Has lha env) (G : Has lkm env) {l : List Lab} (hln : l.length ≤ 9223372036854775807) : ∀ (d : Nat), d < 100 → ∀ r : Rt, r.Held → mayR d r = true → ∀ (p : ByteArray), p.size + 3 * d ≤ 1000 → cntR r ≤ 1000000 →
    AV env 334 [rt r, .sc (.string p), .sl (labs l)] = some (.sl (tgFs (findR l r p)))
  | 0, _, r, _, hm, _, _, _ => by simp [mayR] at hm
  | d + 1, hd, r, hrh, hm, p, hps, hcn => by
    obtain ⟨h, ks, hh, hkl, hkh⟩ := hrh
    have hmk : headR h ks.length = true ∧ ks.all (mayR d) = true := by
      have : mayR (d + 1) (.mk h ks) = (headR h ks.length && ks.all (mayR d)) := rfl
      rw [this, Bool.and_eq_true] at hm
      exact hm
    obtain ⟨hhd, hka⟩ := hmk
    have hk16 : ks.length ≤ 16 := by
      unfold headR at hhd
      simp only [Bool.and_eq_true, Bool.not_eq_true', Bool.or_eq_false_iff, decide_eq_false_iff_not] at hhd
      omega
    have hkl' := rts_len ks
    refine AV_wp (G (334, d334) (by simp [lkm])) rfl ?_
    rw [rt]
    unfold rhd
    (repeat' first
    | refine w_seq ?_ | refine w_rg ?_ | refine wo_nil ?_ | refine g_skU ?_ | refine g_skT ?_ | refine g_skF ?_
    | ((first | apply s_plain | apply s_void | apply s_guard | apply g_goT | apply g_goF); · simp only [go_sem, Nat.reduceEqDiff, Nat.reduceAdd, Nat.reduceLeDiff, hkl', List.set_cons_succ]; (first | done | rfl))
    | ((first | apply g_T | apply g_F | apply g_gT | apply g_gF); · intro q1_; (first | intro q2_ | have q2_ := q1_); simp only [go_sem, Nat.reduceEqDiff, Nat.reduceAdd, Nat.reduceLeDiff, hkl', List.set_cons_succ, q1_, q2_]; (first | done | rfl))
    | fail
    )
    refine w_block (w_rangeF ks.length hkl (fun i fr σ => (σ.m 2000003 0 = some ⟨9, [rhd h (.sl (rts ks))], true, true⟩ ∧ 0 < σ.c 2000003) ∧ ∃ acc, (findL l ks p 0 = acc ++ findL l (ks.drop i) p i ∧ acc.length ≤ cntL (ks.take i)) ∧ Gat σ [32] 10 false (fr 7) (tgFs acc)) ⟨by decide, rfl, rfl⟩ ?_ ?_ (by simp only [go_sem, Nat.reduceEqDiff, Nat.reduceAdd, Nat.reduceLeDiff]; first | done | rfl) (by simp only [go_sem, Nat.reduceEqDiff, Nat.reduceAdd, Nat.reduceLeDiff, hkl']; first | done | rfl) ?_ ?_)
    · rintro i fr1 σ1 v ⟨h1, acc, h2, h3⟩
      refine ⟨⟨h1, acc, h2, ?_⟩, ⟨h1, acc, h2, ?_⟩, ⟨h1, acc, h2, ?_⟩⟩ <;> simp only [go_sem, Nat.reduceEqDiff, Nat.reduceAdd, Nat.reduceLeDiff] <;> exact h3
    · refine ⟨⟨by simp only [go_sem, Nat.reduceEqDiff, Nat.reduceAdd, Nat.reduceLeDiff, rhd], by simp only [go_sem, Nat.reduceEqDiff, Nat.reduceAdd, Nat.reduceLeDiff]⟩, [], ⟨by simp, by simp⟩, ?_⟩
      simp only [go_sem, Nat.reduceEqDiff, Nat.reduceAdd, Nat.reduceLeDiff]
      exact .em
    · rintro i fr1 σ1 hi ⟨⟨hm1, hc1⟩, acc, ⟨hacc, hal⟩, hG⟩ hti hfr
      have f0_1 := hfr 1 rfl; have f0_2 := hfr 2 rfl; have f0_12 := hfr 12 rfl; have f0_13 := hfr 13 rfl; try (simp only [go_sem, Nat.reduceEqDiff, Nat.reduceAdd, Nat.reduceLeDiff] at f0_1); try (simp only [go_sem, Nat.reduceEqDiff, Nat.reduceAdd, Nat.reduceLeDiff] at f0_2); try (simp only [go_sem, Nat.reduceEqDiff, Nat.reduceAdd, Nat.reduceLeDiff] at f0_12); try (simp only [go_sem, Nat.reduceEqDiff, Nat.reduceAdd, Nat.reduceLeDiff] at f0_13)
      have hx := List.getElem?_eq_getElem hi
      have hy := rts_at hx
      rw [rt_eq] at hy
      have e1 : (0 : Int) ≤ (i : Int) ∧ (i : Int) < (ks.length : Int) := by omega
      have hkm : mayR d ks[i] = true := List.all_eq_true.1 hka _ (List.getElem_mem hi)
      have hkd := hkh _ (List.getElem_mem hi)
      have hdrop : ks.drop i = ks[i] :: ks.drop (i + 1) := List.drop_eq_getElem_cons hi
      have hany : holdsA l ks[i].h.ms = true → ks.any (fun k => holdsA l k.h.ms) = true := fun hh => List.any_eq_true.2 ⟨_, List.getElem_mem hi, hh⟩
      have hcnt0 := cntL_take hi
      have hcnt1 := cntL_take_le ks (i + 1)
      rw [cntR_mk] at hcn
      rw [hdrop, findL_cons] at hacc
      generalize ks[i] = k at hx hy hkm hkd hdrop hany hcnt0 hacc
      have h339 := a339 D (l := l) (ms := k.h.ms) hln hkd.hd.ms hkd.hd.mss (fun m hm => List.all_eq_true.1 (mayR_ms hkm) m hm)
      have hkn := findR_len l k (stepP p i)
      unfold rhd at hy
      refine w_block ?_
      (repeat' first
    | refine w_seq ?_ | refine w_rg ?_ | refine wo_nil ?_ | refine g_skU ?_ | refine g_skT ?_ | refine g_skF ?_
    | ((first | apply s_plain | apply s_void | apply s_guard | apply g_goT | apply g_goF); · simp only [go_sem, Nat.reduceEqDiff, Nat.reduceAdd, Nat.reduceLeDiff, f0_1, f0_2, f0_12, f0_13, hti, e1, hkl', Int.toNat_natCast, hy, h339, List.set_cons_succ]; (first | done | rfl))
    | ((first | apply g_T | apply g_F | apply g_gT | apply g_gF); · intro q1_; (first | intro q2_ | have q2_ := q1_); simp only [go_sem, Nat.reduceEqDiff, Nat.reduceAdd, Nat.reduceLeDiff, f0_1, f0_2, f0_12, f0_13, hti, e1, hkl', Int.toNat_natCast, hy, h339, List.set_cons_succ, q1_, q2_]; (first | done | rfl))
    | fail
    )
      have hG1 : Gat ((σ1.new 2000009 ⟨9, [.agg [.sc (.string ⟨#[]⟩), .em, .em, .sc (.int .i64 0), .sc (.int .i64 0), .sc (.int .i64 0), .em, .sc (.bool false), .em]], true, true⟩).put 2000009 (σ1.c 2000009) (some ⟨9, [rhd k.h (.sl (rts k.ks))], true, true⟩)) [32] 10 false (fr1 7) (tgFs acc) := (hG.new _).put (by decide) _
      have hX1 : ((σ1.new 2000009 ⟨9, [.agg [.sc (.string ⟨#[]⟩), .em, .em, .sc (.int .i64 0), .sc (.int .i64 0), .sc (.int .i64 0), .em, .sc (.bool false), .em]], true, true⟩).put 2000009 (σ1.c 2000009) (some ⟨9, [rhd k.h (.sl (rts k.ks))], true, true⟩)).m 2000003 0 = some ⟨9, [rhd h (.sl (rts ks))], true, true⟩ := by simp only [go_sem, Nat.reduceEqDiff, Nat.reduceAdd, Nat.reduceLeDiff, hm1]
      have hC1 : 0 < ((σ1.new 2000009 ⟨9, [.agg [.sc (.string ⟨#[]⟩), .em, .em, .sc (.int .i64 0), .sc (.int .i64 0), .sc (.int .i64 0), .em, .sc (.bool false), .em]], true, true⟩).put 2000009 (σ1.c 2000009) (some ⟨9, [rhd k.h (.sl (rts k.ks))], true, true⟩)).c 2000003 := by simp only [go_sem, Nat.reduceEqDiff, Nat.reduceAdd, Nat.reduceLeDiff, hc1]
      have hB1 : ((σ1.new 2000009 ⟨9, [.agg [.sc (.string ⟨#[]⟩), .em, .em, .sc (.int .i64 0), .sc (.int .i64 0), .sc (.int .i64 0), .em, .sc (.bool false), .em]], true, true⟩).put 2000009 (σ1.c 2000009) (some ⟨9, [rhd k.h (.sl (rts k.ks))], true, true⟩)).m 2000009 (σ1.c 2000009) = some ⟨9, [rhd k.h (.sl (rts k.ks))], true, true⟩ := by simp only [go_sem, Nat.reduceEqDiff, Nat.reduceAdd, Nat.reduceLeDiff]
      have hD1 : σ1.c 2000009 < ((σ1.new 2000009 ⟨9, [.agg [.sc (.string ⟨#[]⟩), .em, .em, .sc (.int .i64 0), .sc (.int .i64 0), .sc (.int .i64 0), .em, .sc (.bool false), .em]], true, true⟩).put 2000009 (σ1.c 2000009) (some ⟨9, [rhd k.h (.sl (rts k.ks))], true, true⟩)).c 2000009 := by simp only [go_sem, Nat.reduceEqDiff, Nat.reduceAdd, Nat.reduceLeDiff]
      unfold rhd at hG1 hX1 hB1 hC1 hD1
      generalize ((σ1.new 2000009 ⟨9, [.agg [.sc (.string ⟨#[]⟩), .em, .em, .sc (.int .i64 0), .sc (.int .i64 0), .sc (.int .i64 0), .em, .sc (.bool false), .em]], true, true⟩).put 2000009 (σ1.c 2000009) _) = σ2 at hG1 hX1 hB1 hC1 hD1 ⊢
      cases hb : holdsA l k.h.ms with
      | false =>
        rw [hb] at hacc
        simp only [Bool.false_eq_true, if_false] at hacc
        (repeat' first
    | refine w_seq ?_ | refine w_rg ?_ | refine wo_nil ?_ | refine g_skU ?_ | refine g_skT ?_ | refine g_skF ?_
    | ((first | apply s_plain | apply s_void | apply s_guard | apply g_goT | apply g_goF); · simp only [go_sem, Nat.reduceEqDiff, Nat.reduceAdd, Nat.reduceLeDiff, hb]; (first | done | rfl))
    | ((first | apply g_T | apply g_F | apply g_gT | apply g_gF); · intro q1_; (first | intro q2_ | have q2_ := q1_); simp only [go_sem, Nat.reduceEqDiff, Nat.reduceAdd, Nat.reduceLeDiff, hb, q1_, q2_]; (first | done | rfl))
    | (apply w_condX; · simp only [go_sem, Nat.reduceEqDiff, Nat.reduceAdd, Nat.reduceLeDiff, hb]; (first | done | rfl)); (first | refine wcd_T ?_ | refine wcd_F ?_)
    | refine w_skip ?_ | refine w_exit ?_ | refine w_ret ?_
    | fail
    )
        try simp only [if_true]
        refine ⟨⟨by unfold rhd; exact hX1, hC1⟩, acc, ⟨hacc, by omega⟩, ?_⟩
        simp only [go_sem, Nat.reduceEqDiff, Nat.reduceAdd, Nat.reduceLeDiff]
        exact hG1
      | true =>
        rw [hb] at hacc
        simp only [if_true] at hacc
        have hi16 : i < 16 := by omega
        have hsz := stepP_size p hi16
        have h203 := a203 A (n := (i : Int)) (by omega) (by omega)
        have hit := itoa16 hi16
        have hrec := a334 D A G hln d (by omega) k hkd hkm (stepP p i) (by omega) (by omega)
        rw [rt_eq] at hrec
        unfold rhd stepP at hrec
        have hs1 : p.size + 1 ≤ 9223372036854775807 := by omega
        have hs2 : (p ++ (⟨#[46]⟩ : ByteArray)).size + (itoaS (i : Int)).size ≤ 9223372036854775807 := by
          rw [ByteArray.size_append]
          have : (⟨#[46]⟩ : ByteArray).size = 1 := rfl
          omega
        have hlk := tgFs_len (findR l k (stepP p i))
        have hla := tgFs_len acc
        (repeat' first
    | refine w_seq ?_ | refine w_rg ?_ | refine wo_nil ?_ | refine g_skU ?_ | refine g_skT ?_ | refine g_skF ?_
    | ((first | apply s_plain | apply s_void | apply s_guard | apply g_goT | apply g_goF); · simp only [go_sem, Nat.reduceEqDiff, Nat.reduceAdd, Nat.reduceLeDiff, f0_1, f0_2, f0_12, f0_13, hb, hB1, h203, hs1, hs2, hrec]; (first | done | rfl))
    | ((first | apply g_T | apply g_F | apply g_gT | apply g_gF); · intro q1_; (first | intro q2_ | have q2_ := q1_); simp only [go_sem, Nat.reduceEqDiff, Nat.reduceAdd, Nat.reduceLeDiff, f0_1, f0_2, f0_12, f0_13, hb, hB1, h203, hs1, hs2, hrec, q1_, q2_]; (first | done | rfl))
    | (apply w_condX; · simp only [go_sem, Nat.reduceEqDiff, Nat.reduceAdd, Nat.reduceLeDiff, f0_1, f0_2, f0_12, f0_13, hb, hB1, h203, hs1, hs2, hrec]; (first | done | rfl)); (first | refine wcd_T ?_ | refine wcd_F ?_)
    | refine w_skip ?_ | refine w_exit ?_ | refine w_ret ?_
    | fail
    )
        refine s_gatL (d := 32) (t := 23) (x := .t 31) (os := [32]) (xs := tgFs acc) (ys := tgFs (findR l k (stepP p i))) (by simp only [go_sem, Nat.reduceEqDiff, Nat.reduceAdd, Nat.reduceLeDiff]; exact hG1) (by simp only [go_sem, Nat.reduceEqDiff, Nat.reduceAdd, Nat.reduceLeDiff, srcOf, elemsOf, stepP]) (tgFs_all _) (by rw [hlk, hla]; omega) ?_
        intro p2 σ3 hg2 hk2
        have hB3 := hk2.m 2000009 (σ1.c 2000009) (by decide) hD1
        rw [hB1] at hB3
        have hX3 := hk2.m 2000003 0 (by decide) hC1
        rw [hX1] at hX3
        have hC3 : 0 < σ3.c 2000003 := Nat.lt_of_lt_of_le hC1 (hk2.c _)
        rw [← tgFs_append] at hg2
        cases hon : k.h.on with
        | true =>
          rw [hon] at hacc
          simp only [if_true] at hacc
          (repeat' first
    | refine w_seq ?_ | refine w_rg ?_ | refine wo_nil ?_ | refine g_skU ?_ | refine g_skT ?_ | refine g_skF ?_
    | ((first | apply s_plain | apply s_void | apply s_guard | apply g_goT | apply g_goF); · simp only [go_sem, Nat.reduceEqDiff, Nat.reduceAdd, Nat.reduceLeDiff, f0_1, f0_2, f0_12, f0_13, hB3, hon]; (first | done | rfl))
    | ((first | apply g_T | apply g_F | apply g_gT | apply g_gF); · intro q1_; (first | intro q2_ | have q2_ := q1_); simp only [go_sem, Nat.reduceEqDiff, Nat.reduceAdd, Nat.reduceLeDiff, f0_1, f0_2, f0_12, f0_13, hB3, hon, q1_, q2_]; (first | done | rfl))
    | (apply w_condX; · simp only [go_sem, Nat.reduceEqDiff, Nat.reduceAdd, Nat.reduceLeDiff, f0_1, f0_2, f0_12, f0_13, hB3, hon]; (first | done | rfl)); (first | refine wcd_T ?_ | refine wcd_F ?_)
    | refine w_skip ?_ | refine w_exit ?_ | refine w_ret ?_
    | fail
    )
          try simp only [if_true]
          refine ⟨⟨by unfold rhd; exact hX3, hC3⟩, acc ++ findR l k (stepP p i), ⟨by rw [hacc, List.append_assoc], by rw [List.length_append]; omega⟩, ?_⟩
          simp only [go_sem, Nat.reduceEqDiff, Nat.reduceAdd, Nat.reduceLeDiff]
          exact hg2
        | false =>
          rw [hon] at hacc
          simp only [Bool.false_eq_true, if_false, List.append_nil] at hacc
          have hfR : findR l (.mk h ks) p = acc ++ findR l k (stepP p i) := by rw [findR_mk, if_pos (hany hb), hacc]
          have hz := gat_fzd hg2 (tgFs_fz σ3 9 _)
          rw [hfR]
          (repeat' first
    | refine w_seq ?_ | refine w_rg ?_ | refine wo_nil ?_ | refine g_skU ?_ | refine g_skT ?_ | refine g_skF ?_
    | ((first | apply s_plain | apply s_void | apply s_guard | apply g_goT | apply g_goF); · simp only [go_sem, Nat.reduceEqDiff, Nat.reduceAdd, Nat.reduceLeDiff, f0_1, f0_2, f0_12, f0_13, hB3, hon]; (first | done | rfl))
    | ((first | apply g_T | apply g_F | apply g_gT | apply g_gF); · intro q1_; (first | intro q2_ | have q2_ := q1_); simp only [go_sem, Nat.reduceEqDiff, Nat.reduceAdd, Nat.reduceLeDiff, f0_1, f0_2, f0_12, f0_13, hB3, hon, q1_, q2_]; (first | done | rfl))
    | (apply w_condX; · simp only [go_sem, Nat.reduceEqDiff, Nat.reduceAdd, Nat.reduceLeDiff, f0_1, f0_2, f0_12, f0_13, hB3, hon]; (first | done | rfl)); (first | refine wcd_T ?_ | refine wcd_F ?_)
    | refine w_skip ?_ | refine w_exit ?_ | refine w_ret ?_
    | fail
    )
          exact ⟨by first | exact .inr rfl | exact .inr trivial | exact .inl rfl, by simp only [go_sem, Nat.reduceEqDiff, Nat.reduceAdd, Nat.reduceLeDiff, retOf, resOf, hz]; first | done | rfl⟩
    · rintro fr1 σ1 ⟨⟨hm1, hc1⟩, acc, ⟨hacc, hal⟩, hG⟩ hfr
      have e0_1 := hfr 1 rfl; have e0_3 := hfr 3 rfl; try (simp only [go_sem, Nat.reduceEqDiff, Nat.reduceAdd, Nat.reduceLeDiff] at e0_1); try (simp only [go_sem, Nat.reduceEqDiff, Nat.reduceAdd, Nat.reduceLeDiff] at e0_3)
      try simp only [if_true]
      rw [List.drop_length, findL_nil, List.append_nil] at hacc
      have hla := tgFs_len acc
      unfold rhd at hm1
      refine w_seq (w_mid (fun fr τ => ∃ o, fr 7 = o ∧ fz τ 12 o = some (.sl (tgFs (findR l (.mk h ks) p)))) ?_ ?_)
      · cases ha : ks.any (fun k => holdsA l k.h.ms) with
        | true =>
          have hfR : findR l (.mk h ks) p = acc := by rw [findR_mk, if_pos ha, hacc]
          have hne : acc ≠ [] := by rw [← hfR]; exact findR_ne _ _ _
          have hpos : 0 < acc.length := List.length_pos_iff.2 hne
          have hz := gat_fzd hG (tgFs_fz σ1 9 _)
          rw [← hfR] at hz
          have e0 : ((acc.length : Int) == 0) = false := by rw [beq_eq_false_iff_ne]; omega
          (repeat' first
    | refine w_seq ?_ | refine w_rg ?_ | refine wo_nil ?_ | refine g_skU ?_ | refine g_skT ?_ | refine g_skF ?_
    | ((first | apply s_plain | apply s_void | apply s_guard | apply g_goT | apply g_goF); · simp only [go_sem, Nat.reduceEqDiff, Nat.reduceAdd, Nat.reduceLeDiff, e0_1, e0_3]; (first | done | rfl))
    | ((first | apply g_T | apply g_F | apply g_gT | apply g_gF); · intro q1_; (first | intro q2_ | have q2_ := q1_); simp only [go_sem, Nat.reduceEqDiff, Nat.reduceAdd, Nat.reduceLeDiff, e0_1, e0_3, q1_, q2_]; (first | done | rfl))
    | fail
    )
          refine s_plain (gat_len hG (by simp only [go_sem, Nat.reduceEqDiff, Nat.reduceAdd, Nat.reduceLeDiff])) ?_
          (repeat' first
    | refine w_seq ?_ | refine w_rg ?_ | refine wo_nil ?_ | refine g_skU ?_ | refine g_skT ?_ | refine g_skF ?_
    | ((first | apply s_plain | apply s_void | apply s_guard | apply g_goT | apply g_goF); · simp only [go_sem, Nat.reduceEqDiff, Nat.reduceAdd, Nat.reduceLeDiff, hla, e0]; (first | done | rfl))
    | ((first | apply g_T | apply g_F | apply g_gT | apply g_gF); · intro q1_; (first | intro q2_ | have q2_ := q1_); simp only [go_sem, Nat.reduceEqDiff, Nat.reduceAdd, Nat.reduceLeDiff, hla, e0, q1_, q2_]; (first | done | rfl))
    | (apply w_condX; · simp only [go_sem, Nat.reduceEqDiff, Nat.reduceAdd, Nat.reduceLeDiff, hla, e0]; (first | done | rfl)); (first | refine wcd_T ?_ | refine wcd_F ?_)
    | refine w_skip ?_ | refine w_exit ?_ | refine w_ret ?_
    | fail
    )
          exact ⟨rfl, _, rfl, by simp only [go_sem, Nat.reduceEqDiff, Nat.reduceAdd, Nat.reduceLeDiff]; exact hz⟩
        | false =>
          have hfR : findR l (.mk h ks) p = [(p, h)] := by rw [findR_mk, ha]; rfl
          have hnil : acc = [] := by rw [← hacc]; exact findL_none l ks p 0 ha
          subst hnil
          have h7 : fr1 7 = .em := by
            rcases hG with ⟨h7, _⟩ | ⟨_, _, _, _, _, _, _, hne, _⟩
            · exact h7
            · exact absurd rfl hne
          rw [hfR]
          (repeat' first
    | refine w_seq ?_ | refine w_rg ?_ | refine wo_nil ?_ | refine g_skU ?_ | refine g_skT ?_ | refine g_skF ?_
    | ((first | apply s_plain | apply s_void | apply s_guard | apply g_goT | apply g_goF); · simp only [go_sem, Nat.reduceEqDiff, Nat.reduceAdd, Nat.reduceLeDiff, e0_1, e0_3, h7, hm1, List.set_cons_succ]; (first | done | rfl))
    | ((first | apply g_T | apply g_F | apply g_gT | apply g_gF); · intro q1_; (first | intro q2_ | have q2_ := q1_); simp only [go_sem, Nat.reduceEqDiff, Nat.reduceAdd, Nat.reduceLeDiff, e0_1, e0_3, h7, hm1, List.set_cons_succ, q1_, q2_]; (first | done | rfl))
    | (apply w_condX; · simp only [go_sem, Nat.reduceEqDiff, Nat.reduceAdd, Nat.reduceLeDiff, e0_1, e0_3, h7, hm1, List.set_cons_succ]; (first | done | rfl)); (first | refine wcd_T ?_ | refine wcd_F ?_)
    | refine w_skip ?_ | refine w_exit ?_ | refine w_ret ?_
    | fail
    )
          refine s_gat (d := 47) (t := 42) (x := .t 46) (os := [47]) (w := false) (xs := []) (e := tgV (p, h)) (by simp only [go_sem, Nat.reduceEqDiff, Nat.reduceAdd, Nat.reduceLeDiff, h7]; exact Gat.em) (by simp) (by simp only [go_sem, Nat.reduceEqDiff, Nat.reduceAdd, Nat.reduceLeDiff, srcOf, elemsOf, List.set_cons_succ, tgV, rhd]) rfl rfl (by simp) ?_
          intro p2 σ3 hg2
          have hz := gat_fz2 hg2 (show List.mapM (fz σ3 11) ([] ++ [tgV (p, h)]) = some (tgFs [(p, h)]) from tgs_fz σ3 9 [(p, h)])
          (repeat' first
    | refine w_seq ?_ | refine w_rg ?_ | refine wo_nil ?_ | refine g_skU ?_ | refine g_skT ?_ | refine g_skF ?_
    | ((first | apply s_plain | apply s_void | apply s_guard | apply g_goT | apply g_goF); · simp only [go_sem, Nat.reduceEqDiff, Nat.reduceAdd, Nat.reduceLeDiff]; (first | done | rfl))
    | ((first | apply g_T | apply g_F | apply g_gT | apply g_gF); · intro q1_; (first | intro q2_ | have q2_ := q1_); simp only [go_sem, Nat.reduceEqDiff, Nat.reduceAdd, Nat.reduceLeDiff, q1_, q2_]; (first | done | rfl))
    | (apply w_condX; · simp only [go_sem, Nat.reduceEqDiff, Nat.reduceAdd, Nat.reduceLeDiff]; (first | done | rfl)); (first | refine wcd_T ?_ | refine wcd_F ?_)
    | refine w_skip ?_ | refine w_exit ?_ | refine w_ret ?_
    | fail
    )
          exact ⟨rfl, _, rfl, by simp only [go_sem, Nat.reduceEqDiff, Nat.reduceAdd, Nat.reduceLeDiff]; exact hz⟩
      · rintro fr2 σ2 ⟨o, h7, hz⟩
        try simp only []
        (repeat' first
    | refine w_seq ?_ | refine w_rg ?_ | refine wo_nil ?_ | refine g_skU ?_ | refine g_skT ?_ | refine g_skF ?_
    | ((first | apply s_plain | apply s_void | apply s_guard | apply g_goT | apply g_goF); · simp only [go_sem, Nat.reduceEqDiff, Nat.reduceAdd, Nat.reduceLeDiff, h7]; (first | done | rfl))
    | ((first | apply g_T | apply g_F | apply g_gT | apply g_gF); · intro q1_; (first | intro q2_ | have q2_ := q1_); simp only [go_sem, Nat.reduceEqDiff, Nat.reduceAdd, Nat.reduceLeDiff, h7, q1_, q2_]; (first | done | rfl))
    | (apply w_condX; · simp only [go_sem, Nat.reduceEqDiff, Nat.reduceAdd, Nat.reduceLeDiff, h7]; (first | done | rfl)); (first | refine wcd_T ?_ | refine wcd_F ?_)
    | refine w_skip ?_ | refine w_exit ?_ | refine w_ret ?_
    | fail
    )
        exact ⟨by first | exact .inr rfl | exact .inr trivial | exact .inl rfl, by simp only [go_sem, Nat.reduceEqDiff, Nat.reduceAdd, Nat.reduceLeDiff, retOf, resOf, hz]; first | done | rfl⟩
end

def d330 : Def := (.code 3 [.tmp 6] (.seq (.rg false [⟨.some 3, .none, .box (.t 0)⟩, ⟨.some 4, .none, .box (.t 1)⟩, ⟨.some 6, .none, .mv (.c (.bool false))⟩]) (.seq (.seq (.rg false [⟨.some 11, .none, .mv (.t 2)⟩, ⟨.some 12, .none, .call 293 .pure [.t 11]⟩, ⟨.some 2, .none, .mv (.t 12)⟩]) (.seq (.rg false [⟨.some 13, .none, .ld (.some 9) (.t 3)⟩, ⟨.some 14, .none, .call 294 .pure [.t 13, .c (.int .i64 60)]⟩, ⟨.some 15, .none, .bin .gtr (.t 14) (.c (.int .i64 60))⟩, ⟨.some 16, .none, .mv (.t 15)⟩, ⟨.some 17, .some (16, false), .ld (.some 9) (.t 4)⟩, ⟨.some 18, .some (16, false), .call 294 .pure [.t 17, .c (.int .i64 60)]⟩, ⟨.some 19, .some (16, false), .bin .gtr (.t 18) (.c (.int .i64 60))⟩, ⟨.some 20, .none, .pick (.t 16) (.c (.bool true)) (.t 19)⟩]) (.cond (.t 20) (.seq (.rg false [⟨.some 21, .none, .call 295 .pure []⟩, ⟨.some 6, .none, .mv (.t 21)⟩]) .ret) .skip))) (.seq (.rg false [⟨.some 23, .none, .ld (.some 9) (.t 3)⟩, ⟨.some 24, .none, .mv (.t 2)⟩, ⟨.some 25, .none, .call 296 .pure [.t 23, .t 24]⟩, ⟨.some 22, .none, .mv (.t 25)⟩, ⟨.some 26, .none, .ext (.t 22) 0⟩, ⟨.some 27, .none, .ext (.t 22) 1⟩, ⟨.some 7, .none, .mv (.t 26)⟩, ⟨.some 8, .none, .mv (.t 27)⟩]) (.seq (.seq (.rg true [⟨.some 28, .none, .ld (.some 9) (.t 3)⟩, ⟨.some 29, .none, .call 298 .strict [.t 28]⟩, ⟨.some 30, .none, .ld (.some 9) (.t 3)⟩, ⟨.some 31, .none, .call 331 .strict [.t 30]⟩, ⟨.some 32, .none, .beq true (.t 29) (.t 31)⟩, ⟨.some 33, .none, .mv (.t 32)⟩, ⟨.some 34, .some (33, false), .ld (.some 9) (.t 3)⟩, ⟨.some 35, .some (33, false), .ld (.some 9) (.t 4)⟩, ⟨.some 36, .some (33, false), .call 332 .strict [.t 34, .t 35]⟩, ⟨.some 37, .some (33, false), .ld (.some 9) (.t 3)⟩, ⟨.some 38, .some (33, false), .ld (.some 9) (.t 4)⟩, ⟨.some 39, .some (33, false), .call 300 .strict [.t 37, .t 38]⟩, ⟨.some 40, .some (33, false), .beq true (.t 36) (.t 39)⟩, ⟨.some 41, .none, .pick (.t 33) (.c (.bool true)) (.t 40)⟩, ⟨.some 42, .none, .mv (.t 41)⟩, ⟨.some 43, .some (42, false), .ld (.some 9) (.t 3)⟩, ⟨.some 44, .some (42, false), .ld (.some 9) (.t 3)⟩, ⟨.some 45, .some (42, false), .call 332 .strict [.t 43, .t 44]⟩, ⟨.some 46, .some (42, false), .un .not (.t 45)⟩, ⟨.some 47, .none, .pick (.t 42) (.c (.bool true)) (.t 46)⟩, ⟨.some 48, .none, .mv (.t 47)⟩, ⟨.some 49, .some (48, false), .ld (.some 9) (.t 3)⟩, ⟨.some 50, .some (48, false), .call 333 .strict [.t 49]⟩, ⟨.some 51, .some (48, false), .ld (.some 9) (.t 3)⟩, ⟨.some 52, .some (48, false), .call 297 .strict [.t 51]⟩, ⟨.some 53, .some (48, false), .lenL (.t 52)⟩, ⟨.some 54, .some (48, false), .bin .neq (.t 50) (.t 53)⟩, ⟨.some 55, .none, .pick (.t 48) (.c (.bool true)) (.t 54)⟩, ⟨.some 56, .none, .mv (.t 55)⟩, ⟨.some 57, .some (56, false), .call 295 .strict []⟩, ⟨.some 58, .some (56, false), .un .not (.t 57)⟩, ⟨.some 59, .none, .pick (.t 56) (.c (.bool true)) (.t 58)⟩]) (.cond (.t 59) (.seq (.rg false [⟨.some 6, .none, .mv (.c (.bool false))⟩]) .ret) .skip)) (.seq (.seq (.rg false [⟨.some 60, .none, .ld (.some 9) (.t 3)⟩, ⟨.some 61, .none, .call 331 .pure [.t 60]⟩, ⟨.some 62, .none, .un .not (.t 61)⟩, ⟨.some 63, .none, .mv (.t 62)⟩, ⟨.some 64, .some (63, false), .mv (.t 2)⟩, ⟨.some 65, .some (63, false), .call 110 .pure [.t 64]⟩, ⟨.some 66, .some (63, false), .un .not (.t 65)⟩, ⟨.some 67, .none, .pick (.t 63) (.c (.bool true)) (.t 66)⟩]) (.cond (.t 67) (.seq (.rg false [⟨.some 68, .none, .mv (.t 8)⟩, ⟨.some 69, .none, .bin .eql (.t 68) (.c (.int .i64 1))⟩, ⟨.some 70, .none, .mv (.t 69)⟩, ⟨.some 71, .some (70, true), .mv (.t 7)⟩, ⟨.some 72, .some (70, true), .lenL (.t 71)⟩, ⟨.some 73, .some (70, true), .bin .eql (.t 72) (.c (.int .i64 0))⟩, ⟨.some 74, .none, .pick (.t 70) (.t 73) (.c (.bool false))⟩, ⟨.some 6, .none, .mv (.t 74)⟩]) .ret) .skip)) (.seq (.rg false [⟨.some 75, .none, .ld (.some 9) (.t 3)⟩, ⟨.some 76, .none, .mv (.t 2)⟩, ⟨.some 77, .none, .call 334 .pure [.t 75, .c (.string ⟨#[]⟩), .t 76]⟩, ⟨.some 9, .none, .mv (.t 77)⟩]) (.seq (.seq (.rg false [⟨.some 78, .none, .mv (.t 8)⟩, ⟨.some 79, .none, .bin .neq (.t 78) (.c (.int .i64 0))⟩, ⟨.some 80, .none, .mv (.t 79)⟩, ⟨.some 81, .some (80, false), .mv (.t 7)⟩, ⟨.some 82, .some (80, false), .lenL (.t 81)⟩, ⟨.some 83, .some (80, false), .mv (.t 9)⟩, ⟨.some 84, .some (80, false), .lenL (.t 83)⟩, ⟨.some 85, .some (80, false), .bin .neq (.t 82) (.t 84)⟩, ⟨.some 86, .none, .pick (.t 80) (.c (.bool true)) (.t 85)⟩]) (.cond (.t 86) (.seq (.rg false [⟨.some 6, .none, .mv (.c (.bool false))⟩]) .ret) .skip)) (.seq (.seq (.rg false [⟨.some 87, .none, .mv (.t 7)⟩, ⟨.some 88, .none, .lenL (.t 87)⟩, ⟨.some 89, .none, .mv (.c (.int .i64 0))⟩]) (.block 0 (.loop (.seq (.rg false [⟨.some 90, .none, .bin .lss (.t 89) (.t 88)⟩]) (.seq (.cond (.t 90) .skip (.exit 0)) (.seq (.block 1 (.seq (.rg false [⟨.some 91, .none, .mv (.t 89)⟩, ⟨.some 10, .none, .mv (.t 91)⟩]) (.seq (.rg true [⟨.some 92, .none, .mv (.t 7)⟩, ⟨.some 93, .none, .mv (.t 10)⟩, ⟨.some 94, .none, .ia 10 (.t 92) (.t 93)⟩, ⟨.some 95, .none, .fa 0 (.t 94)⟩, ⟨.some 96, .none, .ld .none (.t 95)⟩, ⟨.some 97, .none, .mv (.t 9)⟩, ⟨.some 98, .none, .mv (.t 10)⟩, ⟨.some 99, .none, .ia 10 (.t 97) (.t 98)⟩, ⟨.some 100, .none, .fa 0 (.t 99)⟩, ⟨.some 101, .none, .ld .none (.t 100)⟩, ⟨.some 102, .none, .bin .neq (.t 96) (.t 101)⟩, ⟨.some 103, .none, .mv (.t 102)⟩, ⟨.some 104, .some (103, false), .mv (.t 7)⟩, ⟨.some 105, .some (103, false), .mv (.t 10)⟩, ⟨.some 106, .some (103, false), .ia 10 (.t 104) (.t 105)⟩, ⟨.some 107, .some (103, false), .fa 1 (.t 106)⟩, ⟨.some 108, .some (103, false), .ld (.some 9) (.t 107)⟩, ⟨.some 109, .some (103, false), .mv (.t 9)⟩, ⟨.some 110, .some (103, false), .mv (.t 10)⟩, ⟨.some 111, .some (103, false), .ia 10 (.t 109) (.t 110)⟩, ⟨.some 112, .some (103, false), .fa 1 (.t 111)⟩, ⟨.some 113, .some (103, false), .ld (.some 9) (.t 112)⟩, ⟨.some 114, .some (103, false), .call 300 .strict [.t 108, .t 113]⟩, ⟨.some 115, .some (103, false), .un .not (.t 114)⟩, ⟨.some 116, .none, .pick (.t 103) (.c (.bool true)) (.t 115)⟩]) (.cond (.t 116) (.seq (.rg false [⟨.some 6, .none, .mv (.c (.bool false))⟩]) .ret) .skip)))) (.rg false [⟨.some 117, .none, .bin .add (.t 89) (.c (.int .i64 1))⟩, ⟨.some 89, .none, .mv (.t 117)⟩]))))))) (.seq (.rg false [⟨.some 6, .none, .mv (.c (.bool true))⟩]) .ret))))))))))
def lkn : List (Nat × Def) := [(330, d330)]
structure Rr9z (env : Nat → Option Def) : Prop where
  m : Mm4 env
  b : Has lkb env
  a : Has lha env
  f : Has lkc env
  d : Has lkd env
  e : Has lke env
  s : Has lhd env
  k : Has lkf env
  q : Has lhe env
  n : Mm9 env
  u : Has lm0 env
  o : Has lkk env
  t : Has lkm env
  al : AV env 295 [] = some (.sc (.bool true))
section
variable {env : Nat → Option Def} {fr : Fr} {σ σ' σ'' : St} {K : Fr → St → Prop} {Q : X → Fr → St → Prop} {p : PV} {bs : List UInt8}
theorem a330 (H : Rr9z env) (G : Has lkn env) {a b : Rt} {l0 : List Lab} (ha : a.Held) (hb : b.Held) (hl0 : l0.length ≤ 9223372036854775807) : AV env 330 [rt a, rt b, .sl (labs l0)] = some (.sc (.bool true)) := by
  have h293 := a293 H.d hl0
  have hls := fewL_smalls l0
  have hln : (fewL l0).length ≤ 10 := by rw [fewL_len]; omega
  have h294a : AV env 294 [rt a, .sc (.int .i64 60)] = some (.sc (.int .i64 ((min (cntR a) 61 : Nat) : Int))) := a294 H.d a ha 60 (by omega)
  have h294b : AV env 294 [rt b, .sc (.int .i64 60)] = some (.sc (.int .i64 ((min (cntR b) 61 : Nat) : Int))) := a294 H.d b hb 60 (by omega)
  have hal := H.al
  generalize fewL l0 = l at h293 hls hln
  refine AV_wp (G (330, d330) (by simp [lkn])) rfl ?_
  rw [rt_eq a] at h294a
  rw [rt_eq b] at h294b
  rw [rt_eq a, rt_eq b]
  unfold rhd at h294a h294b ⊢
  (repeat' first
    | refine w_seq ?_ | refine w_rg ?_ | refine wo_nil ?_ | refine g_skU ?_ | refine g_skT ?_ | refine g_skF ?_
    | ((first | apply s_plain | apply s_void | apply s_guard | apply g_goT | apply g_goF); · simp only [go_sem, Nat.reduceEqDiff, Nat.reduceAdd, Nat.reduceLeDiff, h293, h294a, h294b]; (first | done | rfl))
    | ((first | apply g_T | apply g_F | apply g_gT | apply g_gF); · intro q1_; (first | intro q2_ | have q2_ := q1_); simp only [go_sem, Nat.reduceEqDiff, Nat.reduceAdd, Nat.reduceLeDiff, h293, h294a, h294b, q1_, q2_]; (first | done | rfl))
    | fail
    )
  refine w_condB (by simp only [go_sem, Nat.reduceEqDiff, Nat.reduceAdd, Nat.reduceLeDiff]; first | done | rfl) (fun hc => ?_) (fun hc => ?_)
  · (repeat' first
    | refine w_seq ?_ | refine w_rg ?_ | refine wo_nil ?_ | refine g_skU ?_ | refine g_skT ?_ | refine g_skF ?_
    | ((first | apply s_plain | apply s_void | apply s_guard | apply g_goT | apply g_goF); · simp only [go_sem, Nat.reduceEqDiff, Nat.reduceAdd, Nat.reduceLeDiff, hal]; (first | done | rfl))
    | ((first | apply g_T | apply g_F | apply g_gT | apply g_gF); · intro q1_; (first | intro q2_ | have q2_ := q1_); simp only [go_sem, Nat.reduceEqDiff, Nat.reduceAdd, Nat.reduceLeDiff, hal, q1_, q2_]; (first | done | rfl))
    | (apply w_condX; · simp only [go_sem, Nat.reduceEqDiff, Nat.reduceAdd, Nat.reduceLeDiff, hal]; (first | done | rfl)); (first | refine wcd_T ?_ | refine wcd_F ?_)
    | refine w_skip ?_ | refine w_exit ?_ | refine w_ret ?_
    | fail
    )
    exact ⟨by first | exact .inr rfl | exact .inr trivial | exact .inl rfl, by simp only [go_sem, Nat.reduceEqDiff, Nat.reduceAdd, Nat.reduceLeDiff, retOf, resOf]; first | done | rfl⟩
  · have hc' : cntR a ≤ 60 := by
      rw [Bool.or_eq_false_iff, decide_eq_false_iff_not, decide_eq_false_iff_not] at hc
      omega
    have ht := a296 H.m H.b H.a H.f ha (l := l) (by omega) (by omega) hls
    have h298 := a298 H.m H.b ha
    have h331 := a331 H.n ha
    have h332 := a332 H.q H.o a ha b
    have h300 := a300 H.s H.k a ha b
    have h332a := a332 H.q H.o a ha a
    have h333 := a333 H.o a ha (by omega)
    have h297 := a297 H.e a ha (by omega)
    have h110 := a110 H.n.l0 H.u (l := l) (by omega) hls
    rw [likeT_refl] at h332a
    have hall : (rts (allR a)).length = cntR a := by rw [rts_len, allR_len]
    have hq : ∀ x : Bool, ((x == x) != true) = false := by decide
    have hcn : ((cntR a : Int) != (cntR a : Int)) = false := bne_self_eq_false _
    have h334 := fun hm => a334 H.n H.a H.t (l := l) (by omega) 4 (by omega) a ha hm ⟨#[]⟩ (by show (0 : Nat) + 12 ≤ 1000; omega) (by omega)
    have hTl := fun x => tgFs_len x
    have hsz := fun hm q hq => findR_may l a 4 hm ⟨#[]⟩ q hq
    have hheld : ∀ q ∈ findR l a ⟨#[]⟩, q.2.Held := findR_held l _ ha _
    have hlen := findR_len l a ⟨#[]⟩
    have hlike := fun (q : Rh) (hq : q.Held) => a300 H.s H.k (.mk q []) ⟨q, [], hq, by simp, by simp⟩ (.mk q [])
    rw [rt_eq a] at ht h298 h331 h332 h300 h332a h333 h297 h334
    rw [rt_eq b] at h332 h300
    unfold rhd at ht h298 h331 h332 h300 h332a h333 h297 h334
    cases hm : mayR 4 a with
    | false =>
      rw [hm] at ht h298 h331
      simp only [Bool.false_and, Bool.false_eq_true, if_false] at ht
      (repeat' first
    | refine w_seq ?_ | refine w_rg ?_ | refine wo_nil ?_ | refine g_skU ?_ | refine g_skT ?_ | refine g_skF ?_
    | ((first | apply s_plain | apply s_void | apply s_guard | apply g_goT | apply g_goF); · simp only [go_sem, Nat.reduceEqDiff, Nat.reduceAdd, Nat.reduceLeDiff, ht, h298, h331, h332, h300, h332a, h333, h297, hall, hq, hcn, hal, h110]; (first | done | rfl))
    | ((first | apply g_T | apply g_F | apply g_gT | apply g_gF); · intro q1_; (first | intro q2_ | have q2_ := q1_); simp only [go_sem, Nat.reduceEqDiff, Nat.reduceAdd, Nat.reduceLeDiff, ht, h298, h331, h332, h300, h332a, h333, h297, hall, hq, hcn, hal, h110, q1_, q2_]; (first | done | rfl))
    | (apply w_condX; · simp only [go_sem, Nat.reduceEqDiff, Nat.reduceAdd, Nat.reduceLeDiff, ht, h298, h331, h332, h300, h332a, h333, h297, hall, hq, hcn, hal, h110]; (first | done | rfl)); (first | refine wcd_T ?_ | refine wcd_F ?_)
    | refine w_skip ?_ | refine w_exit ?_ | refine w_ret ?_
    | fail
    )
      exact ⟨by first | exact .inr rfl | exact .inr trivial | exact .inl rfl, by simp only [go_sem, Nat.reduceEqDiff, Nat.reduceAdd, Nat.reduceLeDiff, retOf, resOf]; first | done | rfl⟩
    | true =>
      cases hr : rightL l with
      | false =>
        rw [hm, hr] at ht
        rw [hm] at h298 h331
        rw [hr] at h110
        simp only [Bool.and_false, Bool.false_eq_true, if_false] at ht
        (repeat' first
    | refine w_seq ?_ | refine w_rg ?_ | refine wo_nil ?_ | refine g_skU ?_ | refine g_skT ?_ | refine g_skF ?_
    | ((first | apply s_plain | apply s_void | apply s_guard | apply g_goT | apply g_goF); · simp only [go_sem, Nat.reduceEqDiff, Nat.reduceAdd, Nat.reduceLeDiff, ht, h298, h331, h332, h300, h332a, h333, h297, hall, hq, hcn, hal, h110]; (first | done | rfl))
    | ((first | apply g_T | apply g_F | apply g_gT | apply g_gF); · intro q1_; (first | intro q2_ | have q2_ := q1_); simp only [go_sem, Nat.reduceEqDiff, Nat.reduceAdd, Nat.reduceLeDiff, ht, h298, h331, h332, h300, h332a, h333, h297, hall, hq, hcn, hal, h110, q1_, q2_]; (first | done | rfl))
    | (apply w_condX; · simp only [go_sem, Nat.reduceEqDiff, Nat.reduceAdd, Nat.reduceLeDiff, ht, h298, h331, h332, h300, h332a, h333, h297, hall, hq, hcn, hal, h110]; (first | done | rfl)); (first | refine wcd_T ?_ | refine wcd_F ?_)
    | refine w_skip ?_ | refine w_exit ?_ | refine w_ret ?_
    | fail
    )
        exact ⟨by first | exact .inr rfl | exact .inr trivial | exact .inl rfl, by simp only [go_sem, Nat.reduceEqDiff, Nat.reduceAdd, Nat.reduceLeDiff, retOf, resOf]; first | done | rfl⟩
      | true =>
        have h334 := h334 hm
        rw [hm, hr] at ht
        rw [hm] at h298 h331
        rw [hr] at h110
        simp only [Bool.and_self, if_true] at ht
        generalize findR l a ⟨#[]⟩ = T at ht h334 hheld hlen hsz
        have hne0 : ((T.length : Int) != (T.length : Int)) = false := bne_self_eq_false _
        (repeat' first
    | refine w_seq ?_ | refine w_rg ?_ | refine wo_nil ?_ | refine g_skU ?_ | refine g_skT ?_ | refine g_skF ?_
    | ((first | apply s_plain | apply s_void | apply s_guard | apply g_goT | apply g_goF); · simp only [go_sem, Nat.reduceEqDiff, Nat.reduceAdd, Nat.reduceLeDiff, ht, h298, h331, h332, h300, h332a, h333, h297, hall, hq, hcn, hal, h110, h334, hTl, hne0]; (first | done | rfl))
    | ((first | apply g_T | apply g_F | apply g_gT | apply g_gF); · intro q1_; (first | intro q2_ | have q2_ := q1_); simp only [go_sem, Nat.reduceEqDiff, Nat.reduceAdd, Nat.reduceLeDiff, ht, h298, h331, h332, h300, h332a, h333, h297, hall, hq, hcn, hal, h110, h334, hTl, hne0, q1_, q2_]; (first | done | rfl))
    | (apply w_condX; · simp only [go_sem, Nat.reduceEqDiff, Nat.reduceAdd, Nat.reduceLeDiff, ht, h298, h331, h332, h300, h332a, h333, h297, hall, hq, hcn, hal, h110, h334, hTl, hne0]; (first | done | rfl)); (first | refine wcd_T ?_ | refine wcd_F ?_)
    | refine w_skip ?_ | refine w_exit ?_ | refine w_ret ?_
    | fail
    )
        refine w_block (w_rangeF T.length (by omega) (fun i fr σ => True) ⟨by decide, rfl, rfl⟩ (fun _ _ _ _ h => ⟨h, h, h⟩) trivial (by simp only [go_sem, Nat.reduceEqDiff, Nat.reduceAdd, Nat.reduceLeDiff]; first | done | rfl) (by simp only [go_sem, Nat.reduceEqDiff, Nat.reduceAdd, Nat.reduceLeDiff, hTl]; first | done | rfl) ?_ ?_)
        · rintro i fr2 σ2 hi _ hti hfr
          have f0_7 := hfr 7 rfl; have f0_9 := hfr 9 rfl; have f0_88 := hfr 88 rfl; try (simp only [go_sem, Nat.reduceEqDiff, Nat.reduceAdd, Nat.reduceLeDiff] at f0_7); try (simp only [go_sem, Nat.reduceEqDiff, Nat.reduceAdd, Nat.reduceLeDiff] at f0_9); try (simp only [go_sem, Nat.reduceEqDiff, Nat.reduceAdd, Nat.reduceLeDiff] at f0_88)
          have hx := List.getElem?_eq_getElem hi
          have hy := tgFs_at hx
          have e1 : (0 : Int) ≤ (i : Int) ∧ (i : Int) < (T.length : Int) := by omega
          have hlk := hlike T[i].2 (hheld _ (List.getElem_mem hi))
          rw [likeT_refl, rt_eq] at hlk
          generalize T[i] = q at hy hlk
          obtain ⟨q1, q2⟩ := q
          have hbe : (q1.toList != q1.toList) = false := bne_self_eq_false _
          unfold tgF rhd at hy
          unfold rhd at hlk
          have e3 : Rt.h (.mk q2 []) = q2 := rfl
          have e4 : rts (Rt.ks (.mk q2 [])) = [] := by show rts [] = []; rw [rts]
          rw [e3, e4] at hlk
          simp only [cells_agg] at hy
          refine w_block ?_
          (repeat' first
    | refine w_seq ?_ | refine w_rg ?_ | refine wo_nil ?_ | refine g_skU ?_ | refine g_skT ?_ | refine g_skF ?_
    | ((first | apply s_plain | apply s_void | apply s_guard | apply g_goT | apply g_goF); · simp only [go_sem, Nat.reduceEqDiff, Nat.reduceAdd, Nat.reduceLeDiff, f0_7, f0_9, f0_88, hti, e1, hTl, Int.toNat_natCast, hy, hlk, beq_self_eq_true, hbe]; (first | done | rfl))
    | ((first | apply g_T | apply g_F | apply g_gT | apply g_gF); · intro q1_; (first | intro q2_ | have q2_ := q1_); simp only [go_sem, Nat.reduceEqDiff, Nat.reduceAdd, Nat.reduceLeDiff, f0_7, f0_9, f0_88, hti, e1, hTl, Int.toNat_natCast, hy, hlk, beq_self_eq_true, hbe, q1_, q2_]; (first | done | rfl))
    | (apply w_condX; · simp only [go_sem, Nat.reduceEqDiff, Nat.reduceAdd, Nat.reduceLeDiff, f0_7, f0_9, f0_88, hti, e1, hTl, Int.toNat_natCast, hy, hlk, beq_self_eq_true, hbe]; (first | done | rfl)); (first | refine wcd_T ?_ | refine wcd_F ?_)
    | refine w_skip ?_ | refine w_exit ?_ | refine w_ret ?_
    | fail
    )
          simp only [if_true]
        · rintro fr2 σ2 _ hfr
          skip
          try simp only [if_true]
          (repeat' first
    | refine w_seq ?_ | refine w_rg ?_ | refine wo_nil ?_ | refine g_skU ?_ | refine g_skT ?_ | refine g_skF ?_
    | ((first | apply s_plain | apply s_void | apply s_guard | apply g_goT | apply g_goF); · simp only [go_sem, Nat.reduceEqDiff, Nat.reduceAdd, Nat.reduceLeDiff]; (first | done | rfl))
    | ((first | apply g_T | apply g_F | apply g_gT | apply g_gF); · intro q1_; (first | intro q2_ | have q2_ := q1_); simp only [go_sem, Nat.reduceEqDiff, Nat.reduceAdd, Nat.reduceLeDiff, q1_, q2_]; (first | done | rfl))
    | (apply w_condX; · simp only [go_sem, Nat.reduceEqDiff, Nat.reduceAdd, Nat.reduceLeDiff]; (first | done | rfl)); (first | refine wcd_T ?_ | refine wcd_F ?_)
    | refine w_skip ?_ | refine w_exit ?_ | refine w_ret ?_
    | fail
    )
          exact ⟨by first | exact .inr rfl | exact .inr trivial | exact .inl rfl, by simp only [go_sem, Nat.reduceEqDiff, Nat.reduceAdd, Nat.reduceLeDiff, retOf, resOf]; first | done | rfl⟩
end

end
section
section
variable {P : Program}
def fieldsOf (P : Program) (t : TypeId) : List (Nat × TypeId) := match P.underlying t with
  | some (.struct fs) => fs.toList.map fun f => (f.offset, f.type)
  | _ => []
theorem Is.fields {t : TypeId} {ps : List PV} (h : Is P t ps) (ha : isAgg P t = true) : ps.length = P.cellsOf t ∧ ∀ q ∈ fieldsOf P t, Is P q.2 ((ps.drop q.1).take (P.cellsOf q.2)) := by
  unfold isAgg at ha
  split at ha
  · rename_i fs hu
    obtain ⟨h1, h2⟩ := h.st' hu
    refine ⟨h1, fun q hq => ?_⟩
    simp only [fieldsOf, hu, List.mem_map] at hq
    obtain ⟨f, hf, rfl⟩ := hq
    obtain ⟨i, hi⟩ := List.getElem?_of_mem hf
    exact h2 i f (by simpa using hi)
  · cases ha
theorem str_of {t : TypeId} {p : PV} (h : Is P t [p]) (hk : (match P.underlying t with | some .string => true | _ => false) = true) : ∃ s : ByteArray, p = .sc (.string s) ∧ s.size ≤ reachBytes := by
  split at hk
  · rename_i hu
    obtain ⟨s, hs, h2⟩ := h.str' hu
    simp only [List.cons.injEq, and_true] at hs
    exact ⟨s, hs, h2⟩
  · cases hk
end

end
end Go.Proofs.YthkjlpjogojfiaaGreatDoorPv
