/-
Own texts of the proof, merged: part 2.
-/
import Derived.Test.YthkjlpjogojfiaaDoorPkRoutesMoreA
import Derived.Test.YthkjlpjogojfiaaDoorPvPc
import Derived.Test.YthkjlpjogojfiaaDoorPvL
import Derived.HandedShaped
namespace Go.Proofs.YthkjlpjogojfiaaDoorPv
open Go
set_option linter.unusedSimpArgs false
set_option linter.unusedVariables false
set_option maxHeartbeats 4000000
set_option maxRecDepth 8000
section
attribute [local go_sem ↓] e_mv e_pick e_bin e_eqs e_beq e_un e_cvi e_str e_s2b e_b2s e_box e_build e_bsl e_ld e_st e_nck e_mkf e_slcS e_slcL e_fa e_fld e_ia e_iaa e_ix e_ixa e_ext e_lenS e_lenL e_mnmx e_app e_appb e_bbx e_msl e_clr e_call e_callv e_icall e_slcA e_mkm e_mput e_mget e_mlen e_mdel pa_t pa_c pa_f slcSP_str hiOf_some hiOf_none loOf_some loOf_none set_eq set_ne
attribute [local go_sem] pv pv1 simple frOf_0 frOf_1 frOf_2 frOf_3 frOf_4 frOf_5 ne_eq not_false_eq_true if_true Bool.false_eq_true if_false pbin punary Option.map_some Option.bind_some pick_and pick_or opt_true Bool.true_and Bool.and_self Bool.and_true Bool.true_or Bool.false_or Bool.not_true Bool.not_false callE pcall_eq List.map_cons List.map_nil List.append_nil List.nil_append List.cons_append mapM_cons' mapM_nil' dep_eq fz_sc fz_sl fz_em fz_fn fz_fp fz_agg fz_tu fz_bx fz_ob Nat.lt_irrefl Nat.zero_lt_one Nat.lt_add_one flat clL cl Bool.or_true okc_sc okc_em okc_sl okc_ob okc_bx okc_fp okc_fn okc_agg okc_ifc cells_agg cells_sc cells_sl cells_em cells_ob cells_fn cells_bx cells_fp List.length_cons List.length_nil Nat.zero_add and_self true_and and_true new_m new_c put_m put_c nil_m nil_c nil_mm new_mm put_mm newM_m newM_c newM_mm putM_m putM_c putM_mm mkeyV_1 mkeyV_2 mapAt_eq deref List.getElem?_cons_zero List.getElem?_cons_succ List.drop_zero List.drop_succ_cons List.take_succ_cons List.take_zero Nat.le_refl false_and and_false decide_true decide_false lenP_em lenP_nil lenP_sl lenP_ob Int.ofNat_zero splice fillP fillE List.modify_zero_cons List.replicate_succ List.replicate_zero List.set_cons_zero List.drop_zero ba_data ba_size ba_toList ba_extract ba_append List.toList_toArray
def d307 : Def := (.code 2 [.tmp 4] (.seq (.rg false [⟨.some 4, .none, .mv (.c (.bool false))⟩]) (.seq (.rg false [⟨.some 5, .none, .mv (.t 0)⟩, ⟨.some 6, .none, .mv (.t 1)⟩, ⟨.some 7, .none, .call 322 .pure [.t 5, .t 6]⟩, ⟨.some 8, .none, .bin .geq (.t 7) (.c (.int .i64 0))⟩, ⟨.some 4, .none, .mv (.t 8)⟩]) .ret)))
def d322 : Def := (.code 2 [.tmp 4] (.seq (.rg false [⟨.some 4, .none, .mv (.c (.int .i64 0))⟩]) (.seq (.seq (.rg false [⟨.some 6, .none, .mv (.t 0)⟩, ⟨.some 7, .none, .lenL (.t 6)⟩, ⟨.some 8, .none, .mv (.c (.int .i64 0))⟩]) (.block 0 (.loop (.seq (.rg false [⟨.some 9, .none, .bin .lss (.t 8) (.t 7)⟩]) (.seq (.cond (.t 9) .skip (.exit 0)) (.seq (.block 1 (.seq (.rg false [⟨.some 10, .none, .mv (.t 8)⟩, ⟨.some 5, .none, .mv (.t 10)⟩]) (.seq (.rg false [⟨.some 11, .none, .mv (.t 1)⟩, ⟨.some 12, .none, .mv (.t 0)⟩, ⟨.some 13, .none, .mv (.t 5)⟩, ⟨.some 14, .none, .ia 3 (.t 12) (.t 13)⟩, ⟨.some 15, .none, .ld (.some 3) (.t 14)⟩, ⟨.some 16, .none, .callv (.t 11) .pure [.t 15]⟩]) (.cond (.t 16) (.seq (.rg false [⟨.some 17, .none, .mv (.t 5)⟩, ⟨.some 4, .none, .mv (.t 17)⟩]) .ret) .skip)))) (.rg false [⟨.some 18, .none, .bin .add (.t 8) (.c (.int .i64 1))⟩, ⟨.some 8, .none, .mv (.t 18)⟩]))))))) (.seq (.rg false [⟨.some 4, .none, .mv (.c (.int .i64 (-1)))⟩]) .ret))))
def d318 : Def := (.code 2 [.tmp 4] (.seq (.rg false [⟨.some 4, .none, .mv (.c (.bool false))⟩]) (.seq (.rg false [⟨.some 5, .none, .mv (.t 0)⟩, ⟨.some 6, .none, .mv (.t 1)⟩, ⟨.some 7, .none, .call 326 .pure [.t 5, .t 6]⟩, ⟨.some 8, .none, .bin .geq (.t 7) (.c (.int .i64 0))⟩, ⟨.some 4, .none, .mv (.t 8)⟩]) .ret)))
def d326 : Def := (.code 2 [.tmp 4] (.seq (.rg false [⟨.some 4, .none, .mv (.c (.int .i64 0))⟩]) (.seq (.seq (.rg false [⟨.some 6, .none, .mv (.t 0)⟩, ⟨.some 7, .none, .lenL (.t 6)⟩, ⟨.some 8, .none, .mv (.c (.int .i64 0))⟩]) (.block 0 (.loop (.seq (.rg false [⟨.some 9, .none, .bin .lss (.t 8) (.t 7)⟩]) (.seq (.cond (.t 9) .skip (.exit 0)) (.seq (.block 1 (.seq (.rg false [⟨.some 10, .none, .mv (.t 8)⟩, ⟨.some 5, .none, .mv (.t 10)⟩]) (.seq (.rg false [⟨.some 11, .none, .mv (.t 1)⟩, ⟨.some 12, .none, .mv (.t 0)⟩, ⟨.some 13, .none, .mv (.t 5)⟩, ⟨.some 14, .none, .ia 9 (.t 12) (.t 13)⟩, ⟨.some 15, .none, .ld (.some 9) (.t 14)⟩, ⟨.some 16, .none, .callv (.t 11) .pure [.t 15]⟩]) (.cond (.t 16) (.seq (.rg false [⟨.some 17, .none, .mv (.t 5)⟩, ⟨.some 4, .none, .mv (.t 17)⟩]) .ret) .skip)))) (.rg false [⟨.some 18, .none, .bin .add (.t 8) (.c (.int .i64 1))⟩, ⟨.some 8, .none, .mv (.t 18)⟩]))))))) (.seq (.rg false [⟨.some 4, .none, .mv (.c (.int .i64 (-1)))⟩]) .ret))))
def d324 : Def := (.code 2 [.tmp 4] (.seq (.rg false [⟨.some 4, .none, .mv (.c (.bool false))⟩]) (.seq (.rg false [⟨.some 5, .none, .mv (.t 0)⟩, ⟨.some 6, .none, .mv (.t 1)⟩, ⟨.some 7, .none, .call 329 .pure [.t 5, .t 6]⟩, ⟨.some 8, .none, .bin .geq (.t 7) (.c (.int .i64 0))⟩, ⟨.some 4, .none, .mv (.t 8)⟩]) .ret)))
def d329 : Def := (.code 2 [.tmp 4] (.seq (.rg false [⟨.some 4, .none, .mv (.c (.int .i64 0))⟩]) (.seq (.seq (.rg false [⟨.some 6, .none, .mv (.t 0)⟩, ⟨.some 7, .none, .lenL (.t 6)⟩, ⟨.some 8, .none, .mv (.c (.int .i64 0))⟩]) (.block 0 (.loop (.seq (.rg false [⟨.some 9, .none, .bin .lss (.t 8) (.t 7)⟩]) (.seq (.cond (.t 9) .skip (.exit 0)) (.seq (.block 1 (.seq (.rg false [⟨.some 10, .none, .mv (.t 8)⟩, ⟨.some 5, .none, .mv (.t 10)⟩]) (.seq (.rg false [⟨.some 11, .none, .mv (.t 1)⟩, ⟨.some 12, .none, .mv (.t 0)⟩, ⟨.some 13, .none, .mv (.t 5)⟩, ⟨.some 14, .none, .ia 1 (.t 12) (.t 13)⟩, ⟨.some 15, .none, .ld .none (.t 14)⟩, ⟨.some 16, .none, .callv (.t 11) .pure [.t 15]⟩]) (.cond (.t 16) (.seq (.rg false [⟨.some 17, .none, .mv (.t 5)⟩, ⟨.some 4, .none, .mv (.t 17)⟩]) .ret) .skip)))) (.rg false [⟨.some 18, .none, .bin .add (.t 8) (.c (.int .i64 1))⟩, ⟨.some 8, .none, .mv (.t 18)⟩]))))))) (.seq (.rg false [⟨.some 4, .none, .mv (.c (.int .i64 (-1)))⟩]) .ret))))
def d325 : Def := (.code 2 [.tmp 3] (.seq (.rg false [⟨.some 3, .none, .mv (.c (.bool false))⟩]) (.seq (.rg false [⟨.some 4, .none, .mv (.t 0)⟩, ⟨.some 5, .none, .ld .none (.t 1)⟩, ⟨.some 6, .none, .bin .lss (.t 4) (.t 5)⟩, ⟨.some 7, .none, .mv (.t 6)⟩, ⟨.some 8, .some (7, false), .mv (.t 0)⟩, ⟨.some 9, .some (7, false), .bin .gtr (.t 8) (.c (.int .i64 1099511627776))⟩, ⟨.some 10, .none, .pick (.t 7) (.c (.bool true)) (.t 9)⟩, ⟨.some 3, .none, .mv (.t 10)⟩]) .ret)))
def d317 : Def := (.code 2 [.tmp 4] (.seq (.rg false [⟨.some 2, .none, .box (.t 0)⟩, ⟨.some 4, .none, .mv (.c (.bool false))⟩]) (.seq (.rg false [⟨.some 5, .none, .mv (.t 1)⟩, ⟨.some 6, .none, .mkf 325 [] [.t 2]⟩, ⟨.some 7, .none, .call 324 .pure [.t 5, .t 6]⟩, ⟨.some 8, .none, .un .not (.t 7)⟩, ⟨.some 4, .none, .mv (.t 8)⟩]) .ret)))
def d315 : Def := (.code 2 [.tmp 4] (.seq (.rg false [⟨.some 4, .none, .mv (.c (.bool false))⟩]) (.seq (.seq (.rg false [⟨.some 7, .none, .mv (.t 0)⟩, ⟨.some 8, .none, .lenL (.t 7)⟩, ⟨.some 9, .none, .mv (.c (.int .i64 0))⟩]) (.block 0 (.loop (.seq (.rg false [⟨.some 10, .none, .bin .lss (.t 9) (.t 8)⟩]) (.seq (.cond (.t 10) .skip (.exit 0)) (.seq (.block 1 (.seq (.rg false [⟨.some 11, .none, .mv (.t 9)⟩, ⟨.some 12, .none, .ia 1 (.t 7) (.t 9)⟩, ⟨.some 13, .none, .ld .none (.t 12)⟩, ⟨.some 5, .none, .mv (.t 11)⟩, ⟨.some 6, .none, .mv (.t 13)⟩]) (.seq (.rg false [⟨.some 14, .none, .mv (.t 1)⟩, ⟨.some 15, .none, .mv (.t 6)⟩, ⟨.some 16, .none, .callv (.t 14) .pure [.t 15]⟩, ⟨.some 17, .none, .un .not (.t 16)⟩, ⟨.some 18, .none, .mv (.t 17)⟩, ⟨.some 19, .some (18, false), .mv (.t 5)⟩, ⟨.some 20, .some (18, false), .bin .gtr (.t 19) (.c (.int .i64 0))⟩, ⟨.some 21, .some (18, false), .mv (.t 20)⟩, ⟨.some 22, .some (21, true), .mv (.t 0)⟩, ⟨.some 23, .some (21, true), .mv (.t 5)⟩, ⟨.some 24, .some (21, true), .bin .sub (.t 23) (.c (.int .i64 1))⟩, ⟨.some 25, .some (21, true), .ia 1 (.t 22) (.t 24)⟩, ⟨.some 26, .some (21, true), .ld .none (.t 25)⟩, ⟨.some 27, .some (21, true), .mv (.t 6)⟩, ⟨.some 28, .some (21, true), .bin .geq (.t 26) (.t 27)⟩, ⟨.some 29, .some (18, false), .pick (.t 21) (.t 28) (.c (.bool false))⟩, ⟨.some 30, .none, .pick (.t 18) (.c (.bool true)) (.t 29)⟩]) (.cond (.t 30) (.seq (.rg false [⟨.some 4, .none, .mv (.c (.bool false))⟩]) .ret) .skip)))) (.rg false [⟨.some 31, .none, .bin .add (.t 9) (.c (.int .i64 1))⟩, ⟨.some 9, .none, .mv (.t 31)⟩]))))))) (.seq (.rg false [⟨.some 32, .none, .mv (.t 0)⟩, ⟨.some 33, .none, .lenL (.t 32)⟩, ⟨.some 34, .none, .bin .leq (.t 33) (.c (.int .i64 8))⟩, ⟨.some 4, .none, .mv (.t 34)⟩]) .ret))))
def d314 : Def := (.code 1 [.tmp 2] (.seq (.rg false [⟨.some 2, .none, .mv (.c (.bool false))⟩]) (.seq (.rg false [⟨.some 3, .none, .mv (.t 0)⟩, ⟨.some 4, .none, .build (.agg #[.string ⟨#[]⟩, .slice .none 0 0, .slice .none 0 0]) [(0, (1, .t 3))]⟩, ⟨.some 5, .none, .bsl 3 (.agg #[.string ⟨#[]⟩, .slice .none 0 0, .slice .none 0 0]) 1 [(0, .t 4)]⟩, ⟨.some 6, .none, .call 9 .pure [.t 5]⟩, ⟨.some 2, .none, .mv (.t 6)⟩]) .ret)))
def d316 : Def := (.code 1 [.tmp 2] (.seq (.rg false [⟨.some 2, .none, .mv (.c (.bool false))⟩]) (.seq (.rg false [⟨.some 3, .none, .mv (.t 0)⟩, ⟨.some 4, .none, .build (.agg #[.string ⟨#[]⟩, .string ⟨#[]⟩]) [(0, (1, .t 3)), (1, (1, .c (.string ⟨#[120]⟩)))]⟩, ⟨.some 5, .none, .bsl 2 (.agg #[.string ⟨#[]⟩, .string ⟨#[]⟩]) 1 [(0, .t 4)]⟩, ⟨.some 6, .none, .call 113 .pure [.t 5]⟩, ⟨.some 2, .none, .mv (.t 6)⟩]) .ret)))
def d313 : Def := (.code 1 [.tmp 2] (.seq (.rg false [⟨.some 1, .none, .box (.t 0)⟩, ⟨.some 2, .none, .mv (.c (.bool false))⟩]) (.seq (.rg false [⟨.some 3, .none, .ld (.some 3) (.t 1)⟩, ⟨.some 4, .none, .call 306 .pure [.t 3]⟩, ⟨.some 5, .none, .un .not (.t 4)⟩, ⟨.some 2, .none, .mv (.t 5)⟩]) .ret)))
def d319 : Def := (.code 2 [.tmp 3] (.seq (.rg false [⟨.some 2, .none, .box (.t 0)⟩, ⟨.some 3, .none, .mv (.c (.bool false))⟩]) (.seq (.rg false [⟨.some 4, .none, .ld (.some 9) (.t 2)⟩, ⟨.some 5, .none, .ld .none (.t 1)⟩, ⟨.some 6, .none, .bin .sub (.t 5) (.c (.int .i64 1))⟩, ⟨.some 7, .none, .call 304 .pure [.t 4, .t 6]⟩, ⟨.some 8, .none, .un .not (.t 7)⟩, ⟨.some 3, .none, .mv (.t 8)⟩]) .ret)))
def d304 : Def := (.code 2 [.tmp 4] (.seq (.rg false [⟨.some 2, .none, .box (.t 0)⟩, ⟨.some 3, .none, .box (.t 1)⟩, ⟨.some 4, .none, .mv (.c (.bool false))⟩]) (.seq (.rg false [⟨.some 5, .none, .mv (.f 313)⟩]) (.seq (.seq (.rg false [⟨.some 6, .none, .ld .none (.t 3)⟩, ⟨.some 7, .none, .bin .eql (.t 6) (.c (.int .i64 0))⟩, ⟨.some 8, .none, .mv (.t 7)⟩, ⟨.some 9, .some (8, false), .fa 0 (.t 2)⟩, ⟨.some 10, .some (8, false), .ld .none (.t 9)⟩, ⟨.some 11, .some (8, false), .call 314 .pure [.t 10]⟩, ⟨.some 12, .some (8, false), .un .not (.t 11)⟩, ⟨.some 13, .none, .pick (.t 8) (.c (.bool true)) (.t 12)⟩, ⟨.some 14, .none, .mv (.t 13)⟩, ⟨.some 15, .some (14, false), .fa 1 (.t 2)⟩, ⟨.some 16, .some (14, false), .ld .none (.t 15)⟩, ⟨.some 17, .some (14, false), .lenL (.t 16)⟩, ⟨.some 18, .some (14, false), .bin .gtr (.t 17) (.c (.int .i64 8))⟩, ⟨.some 19, .none, .pick (.t 14) (.c (.bool true)) (.t 18)⟩, ⟨.some 20, .none, .mv (.t 19)⟩, ⟨.some 21, .some (20, false), .fa 1 (.t 2)⟩, ⟨.some 22, .some (20, false), .ld .none (.t 21)⟩, ⟨.some 23, .some (20, false), .mv (.t 5)⟩, ⟨.some 24, .some (20, false), .call 307 .pure [.t 22, .t 23]⟩, ⟨.some 25, .none, .pick (.t 20) (.c (.bool true)) (.t 24)⟩, ⟨.some 26, .none, .mv (.t 25)⟩, ⟨.some 27, .some (26, false), .fa 8 (.t 2)⟩, ⟨.some 28, .some (26, false), .ld .none (.t 27)⟩, ⟨.some 29, .some (26, false), .lenL (.t 28)⟩, ⟨.some 30, .some (26, false), .bin .gtr (.t 29) (.c (.int .i64 16))⟩, ⟨.some 31, .none, .pick (.t 26) (.c (.bool true)) (.t 30)⟩]) (.cond (.t 31) (.seq (.rg false [⟨.some 4, .none, .mv (.c (.bool false))⟩]) .ret) .skip)) (.seq (.seq (.rg false [⟨.some 32, .none, .fa 2 (.t 2)⟩, ⟨.some 33, .none, .ld .none (.t 32)⟩, ⟨.some 34, .none, .call 315 .pure [.t 33, .f 316]⟩, ⟨.some 35, .none, .un .not (.t 34)⟩, ⟨.some 36, .none, .mv (.t 35)⟩, ⟨.some 37, .some (36, false), .fa 6 (.t 2)⟩, ⟨.some 38, .some (36, false), .ld .none (.t 37)⟩, ⟨.some 39, .some (36, false), .call 315 .pure [.t 38, .f 314]⟩, ⟨.some 40, .some (36, false), .un .not (.t 39)⟩, ⟨.some 41, .none, .pick (.t 36) (.c (.bool true)) (.t 40)⟩, ⟨.some 42, .none, .mv (.t 41)⟩, ⟨.some 43, .some (42, false), .fa 3 (.t 2)⟩, ⟨.some 44, .some (42, false), .ld .none (.t 43)⟩, ⟨.some 45, .some (42, false), .bsl 1 (.int .i64 0) 1 [(0, .t 44)]⟩, ⟨.some 46, .some (42, false), .call 317 .pure [.c (.int .i64 0), .t 45]⟩, ⟨.some 47, .some (42, false), .un .not (.t 46)⟩, ⟨.some 48, .none, .pick (.t 42) (.c (.bool true)) (.t 47)⟩, ⟨.some 49, .none, .mv (.t 48)⟩, ⟨.some 50, .some (49, false), .fa 4 (.t 2)⟩, ⟨.some 51, .some (49, false), .ld .none (.t 50)⟩, ⟨.some 52, .some (49, false), .fa 5 (.t 2)⟩, ⟨.some 53, .some (49, false), .ld .none (.t 52)⟩, ⟨.some 54, .some (49, false), .bsl 1 (.int .i64 0) 2 [(0, .t 51), (1, .t 53)]⟩, ⟨.some 55, .some (49, false), .call 317 .pure [.c (.int .i64 1), .t 54]⟩, ⟨.some 56, .some (49, false), .un .not (.t 55)⟩, ⟨.some 57, .none, .pick (.t 49) (.c (.bool true)) (.t 56)⟩]) (.cond (.t 57) (.seq (.rg false [⟨.some 4, .none, .mv (.c (.bool false))⟩]) .ret) .skip)) (.seq (.rg false [⟨.some 58, .none, .fa 8 (.t 2)⟩, ⟨.some 59, .none, .ld .none (.t 58)⟩, ⟨.some 60, .none, .mkf 319 [] [.t 3]⟩, ⟨.some 61, .none, .call 318 .pure [.t 59, .t 60]⟩, ⟨.some 62, .none, .un .not (.t 61)⟩, ⟨.some 4, .none, .mv (.t 62)⟩]) .ret))))))
def d298 : Def := (.code 1 [.tmp 2] (.seq (.rg false [⟨.some 1, .none, .box (.t 0)⟩, ⟨.some 2, .none, .mv (.c (.bool false))⟩]) (.seq (.rg false [⟨.some 3, .none, .ld (.some 9) (.t 1)⟩, ⟨.some 4, .none, .call 304 .pure [.t 3, .c (.int .i64 4)]⟩, ⟨.some 2, .none, .mv (.t 4)⟩]) .ret)))
def d320 : Def := (.code 1 [.tmp 2] (.seq (.rg false [⟨.some 2, .none, .mv (.c (.bool false))⟩]) (.seq (.rg false [⟨.some 3, .none, .mv (.t 0)⟩, ⟨.some 4, .none, .lenS (.t 3)⟩, ⟨.some 5, .none, .bin .leq (.t 4) (.c (.int .i64 64))⟩, ⟨.some 6, .none, .mv (.t 5)⟩, ⟨.some 7, .some (6, true), .mv (.t 0)⟩, ⟨.some 8, .some (6, true), .s2b (.t 7)⟩, ⟨.some 9, .some (6, true), .call 67 .pure [.t 8, .f 327]⟩, ⟨.some 10, .some (6, true), .un .not (.t 9)⟩, ⟨.some 11, .none, .pick (.t 6) (.t 10) (.c (.bool false))⟩, ⟨.some 2, .none, .mv (.t 11)⟩]) .ret)))
def d327 : Def := (.code 1 [.tmp 2] (.seq (.rg false [⟨.some 2, .none, .mv (.c (.bool false))⟩]) (.seq (.rg false [⟨.some 3, .none, .mv (.t 0)⟩, ⟨.some 4, .none, .call 328 .pure [.t 3]⟩, ⟨.some 5, .none, .un .not (.t 4)⟩, ⟨.some 2, .none, .mv (.t 5)⟩]) .ret)))
def d328 : Def := (.code 1 [.tmp 2] (.seq (.rg false [⟨.some 2, .none, .mv (.c (.bool false))⟩]) (.seq (.rg false [⟨.some 3, .none, .mv (.t 0)⟩, ⟨.some 4, .none, .bin .geq (.t 3) (.c (.int .u8 97))⟩, ⟨.some 5, .none, .mv (.t 4)⟩, ⟨.some 6, .some (5, true), .mv (.t 0)⟩, ⟨.some 7, .some (5, true), .bin .leq (.t 6) (.c (.int .u8 122))⟩, ⟨.some 8, .none, .pick (.t 5) (.t 7) (.c (.bool false))⟩, ⟨.some 9, .none, .mv (.t 8)⟩, ⟨.some 10, .some (9, false), .mv (.t 0)⟩, ⟨.some 11, .some (9, false), .bin .geq (.t 10) (.c (.int .u8 65))⟩, ⟨.some 12, .some (9, false), .mv (.t 11)⟩, ⟨.some 13, .some (12, true), .mv (.t 0)⟩, ⟨.some 14, .some (12, true), .bin .leq (.t 13) (.c (.int .u8 90))⟩, ⟨.some 15, .some (9, false), .pick (.t 12) (.t 14) (.c (.bool false))⟩, ⟨.some 16, .none, .pick (.t 9) (.c (.bool true)) (.t 15)⟩, ⟨.some 17, .none, .mv (.t 16)⟩, ⟨.some 18, .some (17, false), .mv (.t 0)⟩, ⟨.some 19, .some (17, false), .bin .geq (.t 18) (.c (.int .u8 48))⟩, ⟨.some 20, .some (17, false), .mv (.t 19)⟩, ⟨.some 21, .some (20, true), .mv (.t 0)⟩, ⟨.some 22, .some (20, true), .bin .leq (.t 21) (.c (.int .u8 57))⟩, ⟨.some 23, .some (17, false), .pick (.t 20) (.t 22) (.c (.bool false))⟩, ⟨.some 24, .none, .pick (.t 17) (.c (.bool true)) (.t 23)⟩, ⟨.some 25, .none, .mv (.t 24)⟩, ⟨.some 26, .some (25, false), .mv (.t 0)⟩, ⟨.some 27, .some (25, false), .call 98 .pure [.c (.string ⟨#[95, 45, 46, 47, 58]⟩), .t 26]⟩, ⟨.some 28, .some (25, false), .bin .geq (.t 27) (.c (.int .i64 0))⟩, ⟨.some 29, .none, .pick (.t 25) (.c (.bool true)) (.t 28)⟩, ⟨.some 2, .none, .mv (.t 29)⟩]) .ret)))
def d321 : Def := (.code 0 [.tmp 0] (.seq (.rg false [⟨.some 0, .none, .mv (.c (.map .none))⟩]) (.seq (.rg false [⟨.some 1, .none, .mkm⟩, ⟨.none, .none, .mput 1 (.t 1) (.c (.int .i64 1)) (.c (.string ⟨#[61]⟩))⟩, ⟨.none, .none, .mput 1 (.t 1) (.c (.int .i64 2)) (.c (.string ⟨#[33, 61]⟩))⟩, ⟨.none, .none, .mput 1 (.t 1) (.c (.int .i64 3)) (.c (.string ⟨#[61, 126]⟩))⟩, ⟨.none, .none, .mput 1 (.t 1) (.c (.int .i64 4)) (.c (.string ⟨#[33, 126]⟩))⟩, ⟨.some 2, .none, .mv (.t 1)⟩, ⟨.some 0, .none, .mv (.t 2)⟩]) .ret)))
def d306 : Def := (.code 1 [.tmp 2] (.seq (.rg false [⟨.some 1, .none, .box (.t 0)⟩, ⟨.some 2, .none, .mv (.c (.bool false))⟩]) (.seq (.rg false [⟨.some 3, .none, .mv (.c (.int .i64 1))⟩]) (.seq (.seq (.rg false [⟨.some 8, .none, .fa 1 (.t 1)⟩, ⟨.some 9, .none, .ld .none (.t 8)⟩, ⟨.some 10, .none, .bin .gtr (.t 9) (.c (.int .i64 2))⟩]) (.cond (.t 10) (.rg false [⟨.some 3, .none, .mv (.c (.int .i64 8))⟩]) .skip)) (.seq (.seq (.rg false [⟨.some 11, .none, .fa 2 (.t 1)⟩, ⟨.some 12, .none, .ld .none (.t 11)⟩, ⟨.some 13, .none, .lenL (.t 12)⟩, ⟨.some 14, .none, .mv (.c (.int .i64 0))⟩]) (.block 0 (.loop (.seq (.rg false [⟨.some 15, .none, .bin .lss (.t 14) (.t 13)⟩]) (.seq (.cond (.t 15) .skip (.exit 0)) (.seq (.block 1 (.seq (.rg false [⟨.some 16, .none, .mv (.t 14)⟩, ⟨.some 17, .none, .ia 1 (.t 12) (.t 14)⟩, ⟨.some 18, .none, .ld .none (.t 17)⟩, ⟨.some 4, .none, .mv (.t 16)⟩, ⟨.some 5, .none, .mv (.t 18)⟩]) (.seq (.rg false [⟨.some 19, .none, .mv (.t 5)⟩, ⟨.some 20, .none, .call 320 .pure [.t 19]⟩, ⟨.some 21, .none, .un .not (.t 20)⟩, ⟨.some 22, .none, .mv (.t 21)⟩, ⟨.some 23, .some (22, false), .mv (.t 4)⟩, ⟨.some 24, .some (22, false), .bin .gtr (.t 23) (.c (.int .i64 0))⟩, ⟨.some 25, .some (22, false), .mv (.t 24)⟩, ⟨.some 26, .some (25, true), .fa 2 (.t 1)⟩, ⟨.some 27, .some (25, true), .ld .none (.t 26)⟩, ⟨.some 28, .some (25, true), .mv (.t 4)⟩, ⟨.some 29, .some (25, true), .bin .sub (.t 28) (.c (.int .i64 1))⟩, ⟨.some 30, .some (25, true), .ia 1 (.t 27) (.t 29)⟩, ⟨.some 31, .some (25, true), .ld .none (.t 30)⟩, ⟨.some 32, .some (25, true), .mv (.t 5)⟩, ⟨.some 33, .some (25, true), .bin .geq (.t 31) (.t 32)⟩, ⟨.some 34, .some (22, false), .pick (.t 25) (.t 33) (.c (.bool false))⟩, ⟨.some 35, .none, .pick (.t 22) (.c (.bool true)) (.t 34)⟩]) (.cond (.t 35) (.seq (.rg false [⟨.some 2, .none, .mv (.c (.bool false))⟩]) .ret) .skip)))) (.rg false [⟨.some 36, .none, .bin .add (.t 14) (.c (.int .i64 1))⟩, ⟨.some 14, .none, .mv (.t 36)⟩]))))))) (.seq (.rg2 [⟨.some 39, .none, .fa 1 (.t 1)⟩, ⟨.some 40, .none, .ld .none (.t 39)⟩, ⟨.some 38, .none, .call 321 .opn []⟩, ⟨.some 41, .none, .mget 1 (.string ⟨#[]⟩) true (.t 38) (.t 40)⟩, ⟨.some 37, .none, .mv (.t 41)⟩, ⟨.some 42, .none, .ext (.t 37) 0⟩, ⟨.some 43, .none, .ext (.t 37) 1⟩, ⟨.some 6, .none, .mv (.t 42)⟩, ⟨.some 7, .none, .mv (.t 43)⟩] [⟨.some 39, .none, .fa 1 (.t 1)⟩, ⟨.some 38, .none, .call 321 .opn []⟩, ⟨.some 40, .none, .ld .none (.t 39)⟩, ⟨.some 41, .none, .mget 1 (.string ⟨#[]⟩) true (.t 38) (.t 40)⟩, ⟨.some 37, .none, .mv (.t 41)⟩, ⟨.some 42, .none, .ext (.t 37) 0⟩, ⟨.some 43, .none, .ext (.t 37) 1⟩, ⟨.some 6, .none, .mv (.t 42)⟩, ⟨.some 7, .none, .mv (.t 43)⟩]) (.seq (.rg false [⟨.some 44, .none, .mv (.t 7)⟩, ⟨.some 45, .none, .mv (.t 44)⟩, ⟨.some 46, .some (45, true), .fa 0 (.t 1)⟩, ⟨.some 47, .some (45, true), .ld .none (.t 46)⟩, ⟨.some 48, .some (45, true), .build (.agg #[.string ⟨#[]⟩, .string ⟨#[]⟩]) [(0, (1, .t 47)), (1, (1, .c (.string ⟨#[120]⟩)))]⟩, ⟨.some 49, .some (45, true), .bsl 2 (.agg #[.string ⟨#[]⟩, .string ⟨#[]⟩]) 1 [(0, .t 48)]⟩, ⟨.some 50, .some (45, true), .call 113 .pure [.t 49]⟩, ⟨.some 51, .none, .pick (.t 45) (.t 50) (.c (.bool false))⟩, ⟨.some 52, .none, .mv (.t 51)⟩, ⟨.some 53, .some (52, true), .fa 2 (.t 1)⟩, ⟨.some 54, .some (52, true), .ld .none (.t 53)⟩, ⟨.some 55, .some (52, true), .lenL (.t 54)⟩, ⟨.some 56, .some (52, true), .bin .geq (.t 55) (.c (.int .i64 1))⟩, ⟨.some 57, .none, .pick (.t 52) (.t 56) (.c (.bool false))⟩, ⟨.some 58, .none, .mv (.t 57)⟩, ⟨.some 59, .some (58, true), .fa 2 (.t 1)⟩, ⟨.some 60, .some (58, true), .ld .none (.t 59)⟩, ⟨.some 61, .some (58, true), .lenL (.t 60)⟩, ⟨.some 62, .some (58, true), .mv (.t 3)⟩, ⟨.some 63, .some (58, true), .bin .leq (.t 61) (.t 62)⟩, ⟨.some 64, .none, .pick (.t 58) (.t 63) (.c (.bool false))⟩, ⟨.some 2, .none, .mv (.t 64)⟩]) .ret)))))))
def d305 : Def := (.code 1 [.tmp 2] (.seq (.rg false [⟨.some 1, .none, .box (.t 0)⟩, ⟨.some 2, .none, .mv (.c (.bool false))⟩]) (.seq (.rg false [⟨.some 3, .none, .ld (.some 3) (.t 1)⟩, ⟨.some 4, .none, .call 306 .pure [.t 3]⟩, ⟨.some 5, .none, .un .not (.t 4)⟩, ⟨.some 2, .none, .mv (.t 5)⟩]) .ret)))
def d308 : Def := (.code 2 [.tmp 3] (.seq (.rg false [⟨.some 2, .none, .box (.t 0)⟩, ⟨.some 3, .none, .mv (.c (.bool false))⟩]) (.seq (.rg true [⟨.some 5, .none, .fa 2 (.t 2)⟩, ⟨.some 6, .none, .ld .none (.t 5)⟩, ⟨.some 7, .none, .ld .none (.t 1)⟩, ⟨.some 8, .none, .fa 0 (.t 2)⟩, ⟨.some 9, .none, .ld .none (.t 8)⟩, ⟨.some 10, .none, .call 114 .strict [.t 7, .t 9]⟩, ⟨.some 11, .none, .call 50 .strict [.t 6, .t 10]⟩, ⟨.some 4, .none, .mv (.t 11)⟩]) (.seq (.rg false [⟨.some 12, .none, .mv (.t 4)⟩, ⟨.some 13, .none, .fa 1 (.t 2)⟩, ⟨.some 14, .none, .ld .none (.t 13)⟩, ⟨.some 15, .none, .bin .eql (.t 14) (.c (.int .i64 2))⟩, ⟨.some 16, .none, .mv (.t 15)⟩, ⟨.some 17, .some (16, false), .fa 1 (.t 2)⟩, ⟨.some 18, .some (16, false), .ld .none (.t 17)⟩, ⟨.some 19, .some (16, false), .bin .eql (.t 18) (.c (.int .i64 4))⟩, ⟨.some 20, .none, .pick (.t 16) (.c (.bool true)) (.t 19)⟩, ⟨.some 21, .none, .beq false (.t 12) (.t 20)⟩, ⟨.some 3, .none, .mv (.t 21)⟩]) .ret))))
def d299 : Def := (.code 2 [.tmp 4, .tmp 5] (.seq (.rg false [⟨.some 2, .none, .box (.t 0)⟩, ⟨.some 4, .none, .mv (.c (.bool false))⟩, ⟨.some 5, .none, .mv (.c (.int .i64 0))⟩]) (.seq (.rg false [⟨.some 6, .none, .mv (.f 305)⟩]) (.seq (.seq (.rg false [⟨.some 8, .none, .ld .none (.t 2)⟩, ⟨.some 9, .none, .call 113 .pure [.t 8]⟩, ⟨.some 10, .none, .un .not (.t 9)⟩, ⟨.some 11, .none, .mv (.t 10)⟩, ⟨.some 12, .some (11, false), .mv (.t 1)⟩, ⟨.some 13, .some (11, false), .mv (.t 6)⟩, ⟨.some 14, .some (11, false), .call 307 .pure [.t 12, .t 13]⟩, ⟨.some 15, .none, .pick (.t 11) (.c (.bool true)) (.t 14)⟩]) (.cond (.t 15) (.seq (.rg false [⟨.some 4, .none, .mv (.c (.bool false))⟩, ⟨.some 5, .none, .mv (.c (.int .i64 1))⟩]) .ret) .skip)) (.seq (.rg false [⟨.some 16, .none, .mkf 308 [] [.t 2]⟩, ⟨.some 7, .none, .mv (.t 16)⟩]) (.seq (.rg false [⟨.some 17, .none, .mv (.t 1)⟩, ⟨.some 18, .none, .mv (.t 7)⟩, ⟨.some 19, .none, .call 307 .pure [.t 17, .t 18]⟩, ⟨.some 20, .none, .un .not (.t 19)⟩, ⟨.some 4, .none, .mv (.t 20)⟩, ⟨.some 5, .none, .mv (.c (.int .i64 0))⟩]) .ret))))))
def lka : List (Nat × Def) := [(98, .prim (pureF ixbF)), (328, d328), (327, d327), (320, d320), (321, d321), (306, d306), (305, d305), (308, d308), (299, d299), (307, d307), (322, d322)]
def lkb : List (Nat × Def) := [(318, d318), (326, d326), (324, d324), (329, d329), (325, d325), (317, d317), (315, d315), (314, d314), (316, d316), (313, d313), (319, d319), (304, d304), (298, d298)]
structure Mm4 (env : Nat → Option Def) : Prop where
  w : Has law env
  f : Has lf0 env
  l : Has la0 env
  c : Has lc env
  x : Has lx0 env
  a : Has lka env
def dIF (es : Nat) : Def := (.code 2 [.tmp 4] (.seq (.rg false [⟨.some 4, .none, .mv (.c (.int .i64 0))⟩]) (.seq (.seq (.rg false [⟨.some 6, .none, .mv (.t 0)⟩, ⟨.some 7, .none, .lenL (.t 6)⟩, ⟨.some 8, .none, .mv (.c (.int .i64 0))⟩]) (.block 0 (.loop (.seq (.rg false [⟨.some 9, .none, .bin .lss (.t 8) (.t 7)⟩]) (.seq (.cond (.t 9) .skip (.exit 0)) (.seq (.block 1 (.seq (.rg false [⟨.some 10, .none, .mv (.t 8)⟩, ⟨.some 5, .none, .mv (.t 10)⟩]) (.seq (.rg false [⟨.some 11, .none, .mv (.t 1)⟩, ⟨.some 12, .none, .mv (.t 0)⟩, ⟨.some 13, .none, .mv (.t 5)⟩, ⟨.some 14, .none, .ia es (.t 12) (.t 13)⟩, ⟨.some 15, .none, .ld (.some es) (.t 14)⟩, ⟨.some 16, .none, .callv (.t 11) .pure [.t 15]⟩]) (.cond (.t 16) (.seq (.rg false [⟨.some 17, .none, .mv (.t 5)⟩, ⟨.some 4, .none, .mv (.t 17)⟩]) .ret) .skip)))) (.rg false [⟨.some 18, .none, .bin .add (.t 8) (.c (.int .i64 1))⟩, ⟨.some 8, .none, .mv (.t 18)⟩]))))))) (.seq (.rg false [⟨.some 4, .none, .mv (.c (.int .i64 (-1)))⟩]) .ret))))
theorem dIF_3 : d322 = dIF 3 := rfl
theorem dIF_9 : d326 = dIF 9 := rfl
section
variable {env : Nat → Option Def} {fr : Fr} {σ σ' σ'' : St} {K : Fr → St → Prop} {Q : X → Fr → St → Prop} {p : PV} {bs : List UInt8}
theorem idxS {k0 es : Nat} (hk0 : env k0 = some (dIF es)) {xs : List PV} {k : Nat} {a b : List PV} {p : Nat → Bool} (hn : xs.length ≤ 9223372036854775807) (h1 : ∀ (i : Nat) e, xs[i]? = some e → ∃ cs, e = .agg cs ∧ cs.length = es)
    (hz : ∀ (i : Nat) e, xs[i]? = some e → ∀ σ, (a ++ [e] ++ b).mapM (fz σ 12) = some (a ++ [e] ++ b)) (hp : ∀ (i : Nat) e, xs[i]? = some e → AV env k (a ++ [e] ++ b) = some (.sc (.bool (p i)))) :
    AV env k0 [.sl xs, .fn k a b] = some (.sc (.int .i64 (found p xs.length))) := by
  refine AV_wp hk0 rfl ?_
  (repeat' first
    | refine w_seq ?_ | refine w_rg ?_ | refine wo_nil ?_ | refine g_skU ?_ | refine g_skT ?_ | refine g_skF ?_
    | ((first | apply s_plain | apply s_void | apply s_guard | apply g_goT | apply g_goF); · simp only [go_sem, Nat.reduceEqDiff, Nat.reduceAdd, Nat.reduceLeDiff]; (first | done | rfl))
    | ((first | apply g_T | apply g_F | apply g_gT | apply g_gF); · intro q1_; (first | intro q2_ | have q2_ := q1_); simp only [go_sem, Nat.reduceEqDiff, Nat.reduceAdd, Nat.reduceLeDiff, q1_, q2_]; (first | done | rfl))
    | fail
    )
  refine w_block (w_range xs.length hn (fun i fr σ => fr 0 = .sl xs ∧ fr 1 = .fn k a b ∧ ∀ j, j < i → p j = false) (by decide) ?_ ?_ ?_ _ _ ?_ ?_ ?_)
  · rintro i fr σ v ⟨h0, h1, h2⟩
    refine ⟨⟨?_, ?_, h2⟩, ⟨?_, ?_, h2⟩, ⟨?_, ?_, h2⟩⟩ <;> simp only [go_sem, Nat.reduceEqDiff, Nat.reduceAdd, Nat.reduceLeDiff, h0, h1]
  · rintro i fr σ hi ⟨h0, h2, h3⟩ hti htn
    have hx := List.getElem?_eq_getElem hi
    obtain ⟨cs, hc, hcl⟩ := h1 i _ hx
    have hz' := hz i _ hx
    have hp' := hp i _ hx
    rw [hc] at hx hz' hp'
    have e1 : (0 : Int) ≤ (i : Int) ∧ (i : Int) < (xs.length : Int) := by omega
    have htk : cs.take es = cs := List.take_of_length_le (by omega)
    refine w_block ?_
    simp only [List.append_assoc, List.cons_append, List.nil_append] at hz' hp'
    (repeat' first
    | refine w_seq ?_ | refine w_rg ?_ | refine wo_nil ?_ | refine g_skU ?_ | refine g_skT ?_ | refine g_skF ?_
    | ((first | apply s_plain | apply s_void | apply s_guard | apply g_goT | apply g_goF); · simp only [go_sem, Nat.reduceEqDiff, Nat.reduceAdd, Nat.reduceLeDiff, h0, h2, hti, e1, Int.toNat_natCast, hx, List.append_assoc, hz', hp', hcl, htk]; (first | done | rfl))
    | ((first | apply g_T | apply g_F | apply g_gT | apply g_gF); · intro q1_; (first | intro q2_ | have q2_ := q1_); simp only [go_sem, Nat.reduceEqDiff, Nat.reduceAdd, Nat.reduceLeDiff, h0, h2, hti, e1, Int.toNat_natCast, hx, List.append_assoc, hz', hp', hcl, htk, q1_, q2_]; (first | done | rfl))
    | fail
    )
    cases hpi : p i with
    | true =>
      (repeat' first
    | refine w_seq ?_ | refine w_rg ?_ | refine wo_nil ?_ | refine g_skU ?_ | refine g_skT ?_ | refine g_skF ?_
    | ((first | apply s_plain | apply s_void | apply s_guard | apply g_goT | apply g_goF); · simp only [go_sem, Nat.reduceEqDiff, Nat.reduceAdd, Nat.reduceLeDiff]; (first | done | rfl))
    | ((first | apply g_T | apply g_F | apply g_gT | apply g_gF); · intro q1_; (first | intro q2_ | have q2_ := q1_); simp only [go_sem, Nat.reduceEqDiff, Nat.reduceAdd, Nat.reduceLeDiff, q1_, q2_]; (first | done | rfl))
    | (apply w_condX; · simp only [go_sem, Nat.reduceEqDiff, Nat.reduceAdd, Nat.reduceLeDiff]; (first | done | rfl)); (first | refine wcd_T ?_ | refine wcd_F ?_)
    | refine w_skip ?_ | refine w_exit ?_ | refine w_ret ?_
    | fail
    )
      exact ⟨.inr rfl, by simp only [go_sem, Nat.reduceEqDiff, Nat.reduceAdd, Nat.reduceLeDiff, retOf, resOf, found_hit hi h3 hpi]⟩
    | false =>
      (repeat' first
    | refine w_seq ?_ | refine w_rg ?_ | refine wo_nil ?_ | refine g_skU ?_ | refine g_skT ?_ | refine g_skF ?_
    | ((first | apply s_plain | apply s_void | apply s_guard | apply g_goT | apply g_goF); · simp only [go_sem, Nat.reduceEqDiff, Nat.reduceAdd, Nat.reduceLeDiff]; (first | done | rfl))
    | ((first | apply g_T | apply g_F | apply g_gT | apply g_gF); · intro q1_; (first | intro q2_ | have q2_ := q1_); simp only [go_sem, Nat.reduceEqDiff, Nat.reduceAdd, Nat.reduceLeDiff, q1_, q2_]; (first | done | rfl))
    | (apply w_condX; · simp only [go_sem, Nat.reduceEqDiff, Nat.reduceAdd, Nat.reduceLeDiff]; (first | done | rfl)); (first | refine wcd_T ?_ | refine wcd_F ?_)
    | refine w_skip ?_ | refine w_exit ?_ | refine w_ret ?_
    | fail
    )
      refine ⟨⟨?_, ?_, fun j hj => ?_⟩, ?_, ?_⟩
      · simp only [go_sem, Nat.reduceEqDiff, Nat.reduceAdd, Nat.reduceLeDiff, h0]
      · simp only [go_sem, Nat.reduceEqDiff, Nat.reduceAdd, Nat.reduceLeDiff, h2]
      · by_cases hji : j = i
        · rw [hji]; exact hpi
        · exact h3 j (by omega)
      · simp only [go_sem, Nat.reduceEqDiff, Nat.reduceAdd, Nat.reduceLeDiff, hti]
      · simp only [go_sem, Nat.reduceEqDiff, Nat.reduceAdd, Nat.reduceLeDiff, htn]
  · rintro fr σ ⟨h0, h2, h3⟩
    try simp only [if_true]
    (repeat' first
    | refine w_seq ?_ | refine w_rg ?_ | refine wo_nil ?_ | refine g_skU ?_ | refine g_skT ?_ | refine g_skF ?_
    | ((first | apply s_plain | apply s_void | apply s_guard | apply g_goT | apply g_goF); · simp only [go_sem, Nat.reduceEqDiff, Nat.reduceAdd, Nat.reduceLeDiff]; (first | done | rfl))
    | ((first | apply g_T | apply g_F | apply g_gT | apply g_gF); · intro q1_; (first | intro q2_ | have q2_ := q1_); simp only [go_sem, Nat.reduceEqDiff, Nat.reduceAdd, Nat.reduceLeDiff, q1_, q2_]; (first | done | rfl))
    | (apply w_condX; · simp only [go_sem, Nat.reduceEqDiff, Nat.reduceAdd, Nat.reduceLeDiff]; (first | done | rfl)); (first | refine wcd_T ?_ | refine wcd_F ?_)
    | refine w_skip ?_ | refine w_exit ?_ | refine w_ret ?_
    | fail
    )
    exact ⟨.inr rfl, by simp only [go_sem, Nat.reduceEqDiff, Nat.reduceAdd, Nat.reduceLeDiff, retOf, resOf, found_none h3]⟩
  · refine ⟨?_, ?_, fun j hj => by omega⟩ <;> simp only [go_sem, Nat.reduceEqDiff, Nat.reduceAdd, Nat.reduceLeDiff]
  · simp only [go_sem, Nat.reduceEqDiff, Nat.reduceAdd, Nat.reduceLeDiff]
  · simp only [go_sem, Nat.reduceEqDiff, Nat.reduceAdd, Nat.reduceLeDiff]
/-! words of matchers -/
theorem a98 (A : Has lka env) (s : ByteArray) (c : Int) : AV env 98 [.sc (.string s), .sc (.int .u8 c)] = some (.sc (.int .i64 (Lib.indexByte s.data.toList c.toNat.toUInt8))) := by
  have h := A (98, .prim (pureF ixbF)) (by simp [lka])
  refine AV_of (σ := St.nil) (r := .sc (.int .i64 (Lib.indexByte s.data.toList c.toNat.toUInt8))) ?_ rfl
  rw [EV_prim h]
  rfl
theorem a328 (A : Has lka env) (c : Int) : AV env 328 [.sc (.int .u8 c)] = some (.sc (.bool (plainI c))) := by
  have h := a98 A ⟨#[95, 45, 46, 47, 58]⟩ c
  refine AV_wp (A (328, d328) (by simp [lka])) rfl ?_
  (repeat' first
    | refine w_seq ?_ | refine w_rg ?_ | refine wo_nil ?_ | refine g_skU ?_ | refine g_skT ?_ | refine g_skF ?_
    | ((first | apply s_plain | apply s_void | apply s_guard | apply g_goT | apply g_goF); · simp only [go_sem, Nat.reduceEqDiff, Nat.reduceAdd, Nat.reduceLeDiff, h]; (first | done | rfl))
    | ((first | apply g_T | apply g_F | apply g_gT | apply g_gF); · intro q1_; (first | intro q2_ | have q2_ := q1_); simp only [go_sem, Nat.reduceEqDiff, Nat.reduceAdd, Nat.reduceLeDiff, h, q1_, q2_]; (first | done | rfl))
    | (apply w_condX; · simp only [go_sem, Nat.reduceEqDiff, Nat.reduceAdd, Nat.reduceLeDiff, h]; (first | done | rfl)); (first | refine wcd_T ?_ | refine wcd_F ?_)
    | refine w_skip ?_ | refine w_exit ?_ | refine w_ret ?_
    | fail
    )
  exact ⟨.inr rfl, by simp only [go_sem, Nat.reduceEqDiff, Nat.reduceAdd, Nat.reduceLeDiff, retOf, resOf]; rfl⟩
theorem a327 (A : Has lka env) (c : Int) : AV env 327 [.sc (.int .u8 c)] = some (.sc (.bool (oddM c))) := by
  have h := a328 A c
  refine AV_wp (A (327, d327) (by simp [lka])) rfl ?_
  (repeat' first
    | refine w_seq ?_ | refine w_rg ?_ | refine wo_nil ?_ | refine g_skU ?_ | refine g_skT ?_ | refine g_skF ?_
    | ((first | apply s_plain | apply s_void | apply s_guard | apply g_goT | apply g_goF); · simp only [go_sem, Nat.reduceEqDiff, Nat.reduceAdd, Nat.reduceLeDiff, h]; (first | done | rfl))
    | ((first | apply g_T | apply g_F | apply g_gT | apply g_gF); · intro q1_; (first | intro q2_ | have q2_ := q1_); simp only [go_sem, Nat.reduceEqDiff, Nat.reduceAdd, Nat.reduceLeDiff, h, q1_, q2_]; (first | done | rfl))
    | (apply w_condX; · simp only [go_sem, Nat.reduceEqDiff, Nat.reduceAdd, Nat.reduceLeDiff, h]; (first | done | rfl)); (first | refine wcd_T ?_ | refine wcd_F ?_)
    | refine w_skip ?_ | refine w_exit ?_ | refine w_ret ?_
    | fail
    )
  exact ⟨.inr rfl, by simp only [go_sem, Nat.reduceEqDiff, Nat.reduceAdd, Nat.reduceLeDiff, retOf, resOf]; rfl⟩
theorem a320 (W : Has law env) (A : Has lka env) {s : ByteArray} (hs : Small s) : AV env 320 [.sc (.string s)] = some (.sc (.bool (wordM s))) := by
  have h1 := a67b (law_lax W) (k := 327) hs (a327 A)
  refine AV_wp (A (320, d320) (by simp [lka])) rfl ?_
  (repeat' first
    | refine w_seq ?_ | refine w_rg ?_ | refine wo_nil ?_ | refine g_skU ?_ | refine g_skT ?_ | refine g_skF ?_
    | ((first | apply s_plain | apply s_void | apply s_guard | apply g_goT | apply g_goF); · simp only [go_sem, Nat.reduceEqDiff, Nat.reduceAdd, Nat.reduceLeDiff, h1]; (first | done | rfl))
    | ((first | apply g_T | apply g_F | apply g_gT | apply g_gF); · intro q1_; (first | intro q2_ | have q2_ := q1_); simp only [go_sem, Nat.reduceEqDiff, Nat.reduceAdd, Nat.reduceLeDiff, h1, q1_, q2_]; (first | done | rfl))
    | (apply w_condX; · simp only [go_sem, Nat.reduceEqDiff, Nat.reduceAdd, Nat.reduceLeDiff, h1]; (first | done | rfl)); (first | refine wcd_T ?_ | refine wcd_F ?_)
    | refine w_skip ?_ | refine w_exit ?_ | refine w_ret ?_
    | fail
    )
  exact ⟨.inr rfl, by simp only [go_sem, Nat.reduceEqDiff, Nat.reduceAdd, Nat.reduceLeDiff, retOf, resOf]; rfl⟩
def signsL : List (Value × PV) := [(.int .i64 1, .sc (.string ⟨#[61]⟩)), (.int .i64 2, .sc (.string ⟨#[33, 61]⟩)), (.int .i64 3, .sc (.string ⟨#[61, 126]⟩)), (.int .i64 4, .sc (.string ⟨#[33, 126]⟩))]
theorem a321 (A : Has lka env) : ∃ σ', EV env 321 [] σ = some (.mp 4000001 (σ.c 4000001), σ') ∧ σ'.m = σ.m ∧ σ'.mm 4000001 (σ.c 4000001) = some signsL := by
  obtain ⟨r, σ', h, rfl, h1, h2⟩ := EV_wp' (σ := σ) (R := fun r τ => r = .mp 4000001 (σ.c 4000001) ∧ τ.m = σ.m ∧ τ.mm 4000001 (σ.c 4000001) = some signsL) (as := []) (A (321, d321) (by simp [lka])) rfl (by
    (repeat' first
    | refine w_seq ?_ | refine w_rg ?_ | refine wo_nil ?_ | refine g_skU ?_ | refine g_skT ?_ | refine g_skF ?_
    | ((first | apply s_plain | apply s_void | apply s_guard | apply g_goT | apply g_goF); · simp only [go_sem, Nat.reduceEqDiff, Nat.reduceAdd, Nat.reduceLeDiff, mset, same1, decide_false, decide_true]; (first | done | rfl))
    | ((first | apply g_T | apply g_F | apply g_gT | apply g_gF); · intro q1_; (first | intro q2_ | have q2_ := q1_); simp only [go_sem, Nat.reduceEqDiff, Nat.reduceAdd, Nat.reduceLeDiff, mset, same1, decide_false, decide_true, q1_, q2_]; (first | done | rfl))
    | (apply w_condX; · simp only [go_sem, Nat.reduceEqDiff, Nat.reduceAdd, Nat.reduceLeDiff, mset, same1, decide_false, decide_true]; (first | done | rfl)); (first | refine wcd_T ?_ | refine wcd_F ?_)
    | refine w_skip ?_ | refine w_exit ?_ | refine w_ret ?_
    | fail
    )
    refine ⟨.inr rfl, _, by simp only [go_sem, Nat.reduceEqDiff, Nat.reduceAdd, Nat.reduceLeDiff, retOf, resOf], rfl, rfl, ?_⟩
    simp only [go_sem, Nat.reduceEqDiff, Nat.reduceAdd, Nat.reduceLeDiff]
    rfl)
  exact ⟨σ', h, h1, h2⟩
end

section
variable {env : Nat → Option Def} {fr : Fr} {σ σ' σ'' : St} {K : Fr → St → Prop} {Q : X → Fr → St → Prop} {p : PV} {bs : List UInt8}
theorem a113n (L : Has la0 env) (C : Has lc env) {n : ByteArray} (hn : Small n) : AV env 113 [.sl [.agg [.sc (.string n), .sc (.string ⟨#[120]⟩)]]] = some (.sc (.bool (nameB n))) := by
  have h := a113 L C (l := [(n, ⟨#[120]⟩)]) (by simp) (by intro m hm; simp only [List.mem_singleton] at hm; subst hm; exact ⟨hn, by show (1 : Nat) ≤ _; decide⟩)
  have hv : valueB ⟨#[120]⟩ = true := by decide +kernel
  have e : rightL [(n, ⟨#[120]⟩)] = nameB n := by
    have h0 : badL [(n, ⟨#[120]⟩)] 0 = !nameB n := by unfold badL; simp [nth, mayB, hv]
    unfold rightL
    cases hb : nameB n with
    | true =>
      rw [hb] at h0
      rw [found_none (n := [(n, (⟨#[120]⟩ : ByteArray))].length) (p := badL [(n, ⟨#[120]⟩)]) (fun j hj => by
        have : j = 0 := by simpa using hj
        subst this; exact h0)]
      rfl
    | false =>
      rw [hb] at h0
      rw [found_hit (n := [(n, (⟨#[120]⟩ : ByteArray))].length) (p := badL [(n, ⟨#[120]⟩)]) (i := 0) (by simp) (fun j hj => by omega) h0]
      rfl
  rw [e] at h
  exact h
theorem sign_find (how : Int) : ∃ r, mfind (.int .i64 how) signsL = some r ∧ r.isSome = (decide (1 ≤ how) && decide (how ≤ 4)) := by
  unfold signsL
  by_cases h1 : how = 1
  · subst h1; exact ⟨some (.sc (.string ⟨#[61]⟩)), by simp [mfind, same1], by decide⟩
  by_cases h2 : how = 2
  · subst h2; exact ⟨some (.sc (.string ⟨#[33, 61]⟩)), by simp [mfind, same1], by decide⟩
  by_cases h3 : how = 3
  · subst h3; exact ⟨some (.sc (.string ⟨#[61, 126]⟩)), by simp [mfind, same1], by decide⟩
  by_cases h4 : how = 4
  · subst h4; exact ⟨some (.sc (.string ⟨#[33, 126]⟩)), by simp [mfind, same1], by decide⟩
  · refine ⟨none, by simp [mfind, same1, h1, h2, h3, h4], ?_⟩
    have : (decide (1 ≤ how) && decide (how ≤ 4)) = false := by
      rw [Bool.and_eq_false_iff, decide_eq_false_iff_not, decide_eq_false_iff_not]; omega
    rw [this]; rfl
theorem a306 (H : Mm4 env) {m : Mt} (hm : m.Held) : AV env 306 [mt m] = some (.sc (.bool (rightM m))) := by
  obtain ⟨n, how, ws⟩ := m
  obtain ⟨hn, hw, hws⟩ := hm
  simp only at hn hw hws
  have hll := strs_len ws
  have h113 := a113n H.l H.c hn
  have hmt : mt ⟨n, how, ws⟩ = .agg [.sc (.string n), .sc (.int .i64 how), .sl (strs ws)] := rfl
  have hmost : ∀ (fr : Fr), fr 1 = .bx 2000001 0 3 0 0 → fr 3 = .sc (.int .i64 (mostM how : Int)) → True := fun _ _ _ => trivial
  rw [hmt]
  refine AV_wp (H.a (306, d306) (by simp [lka])) rfl ?_
  (repeat' first
    | refine w_seq ?_ | refine w_rg ?_ | refine wo_nil ?_ | refine g_skU ?_ | refine g_skT ?_ | refine g_skF ?_
    | ((first | apply s_plain | apply s_void | apply s_guard | apply g_goT | apply g_goF); · simp only [go_sem, Nat.reduceEqDiff, Nat.reduceAdd, Nat.reduceLeDiff]; (first | done | rfl))
    | ((first | apply g_T | apply g_F | apply g_gT | apply g_gF); · intro q1_; (first | intro q2_ | have q2_ := q1_); simp only [go_sem, Nat.reduceEqDiff, Nat.reduceAdd, Nat.reduceLeDiff, q1_, q2_]; (first | done | rfl))
    | fail
    )
  refine w_mid (fun fr σ => (fr 1 = .bx 2000001 0 3 0 0 ∧ fr 3 = .sc (.int .i64 (mostM how : Int))) ∧ σ.m 2000001 0 = some ⟨3, [.agg [.sc (.string n), .sc (.int .i64 how), .sl (strs ws)]], true, true⟩) ?_ ?_
  · (repeat' first
    | refine w_seq ?_ | refine w_rg ?_ | refine wo_nil ?_ | refine g_skU ?_ | refine g_skT ?_ | refine g_skF ?_
    | ((first | apply s_plain | apply s_void | apply s_guard | apply g_goT | apply g_goF); · simp only [go_sem, Nat.reduceEqDiff, Nat.reduceAdd, Nat.reduceLeDiff]; (first | done | rfl))
    | ((first | apply g_T | apply g_F | apply g_gT | apply g_gF); · intro q1_; (first | intro q2_ | have q2_ := q1_); simp only [go_sem, Nat.reduceEqDiff, Nat.reduceAdd, Nat.reduceLeDiff, q1_, q2_]; (first | done | rfl))
    | fail
    )
    refine w_condB (by simp only [go_sem, Nat.reduceEqDiff, Nat.reduceAdd, Nat.reduceLeDiff]; first | done | rfl) (fun hc => ?_) (fun hc => ?_)
    · (repeat' first
    | refine w_seq ?_ | refine w_rg ?_ | refine wo_nil ?_ | refine g_skU ?_ | refine g_skT ?_ | refine g_skF ?_
    | ((first | apply s_plain | apply s_void | apply s_guard | apply g_goT | apply g_goF); · simp only [go_sem, Nat.reduceEqDiff, Nat.reduceAdd, Nat.reduceLeDiff]; (first | done | rfl))
    | ((first | apply g_T | apply g_F | apply g_gT | apply g_gF); · intro q1_; (first | intro q2_ | have q2_ := q1_); simp only [go_sem, Nat.reduceEqDiff, Nat.reduceAdd, Nat.reduceLeDiff, q1_, q2_]; (first | done | rfl))
    | (apply w_condX; · simp only [go_sem, Nat.reduceEqDiff, Nat.reduceAdd, Nat.reduceLeDiff]; (first | done | rfl)); (first | refine wcd_T ?_ | refine wcd_F ?_)
    | refine w_skip ?_ | refine w_exit ?_ | refine w_ret ?_
    | fail
    )
      exact ⟨rfl, ⟨by simp only [go_sem, Nat.reduceEqDiff, Nat.reduceAdd, Nat.reduceLeDiff], by simp only [go_sem, Nat.reduceEqDiff, Nat.reduceAdd, Nat.reduceLeDiff]; unfold mostM; rw [if_pos (by simpa using hc)]; rfl⟩, by simp only [go_sem, Nat.reduceEqDiff, Nat.reduceAdd, Nat.reduceLeDiff]⟩
    · (repeat' first
    | refine w_seq ?_ | refine w_rg ?_ | refine wo_nil ?_ | refine g_skU ?_ | refine g_skT ?_ | refine g_skF ?_
    | ((first | apply s_plain | apply s_void | apply s_guard | apply g_goT | apply g_goF); · simp only [go_sem, Nat.reduceEqDiff, Nat.reduceAdd, Nat.reduceLeDiff]; (first | done | rfl))
    | ((first | apply g_T | apply g_F | apply g_gT | apply g_gF); · intro q1_; (first | intro q2_ | have q2_ := q1_); simp only [go_sem, Nat.reduceEqDiff, Nat.reduceAdd, Nat.reduceLeDiff, q1_, q2_]; (first | done | rfl))
    | (apply w_condX; · simp only [go_sem, Nat.reduceEqDiff, Nat.reduceAdd, Nat.reduceLeDiff]; (first | done | rfl)); (first | refine wcd_T ?_ | refine wcd_F ?_)
    | refine w_skip ?_ | refine w_exit ?_ | refine w_ret ?_
    | fail
    )
      exact ⟨rfl, ⟨by simp only [go_sem, Nat.reduceEqDiff, Nat.reduceAdd, Nat.reduceLeDiff], by simp only [go_sem, Nat.reduceEqDiff, Nat.reduceAdd, Nat.reduceLeDiff]; unfold mostM; rw [if_neg (by simpa using hc)]; rfl⟩, by simp only [go_sem, Nat.reduceEqDiff, Nat.reduceAdd, Nat.reduceLeDiff]⟩
  rintro fr1 σ1 ⟨⟨g1, g3⟩, hm1⟩
  try simp only []
  (repeat' first
    | refine w_seq ?_ | refine w_rg ?_ | refine wo_nil ?_ | refine g_skU ?_ | refine g_skT ?_ | refine g_skF ?_
    | ((first | apply s_plain | apply s_void | apply s_guard | apply g_goT | apply g_goF); · simp only [go_sem, Nat.reduceEqDiff, Nat.reduceAdd, Nat.reduceLeDiff, g1, hm1, hll]; (first | done | rfl))
    | ((first | apply g_T | apply g_F | apply g_gT | apply g_gF); · intro q1_; (first | intro q2_ | have q2_ := q1_); simp only [go_sem, Nat.reduceEqDiff, Nat.reduceAdd, Nat.reduceLeDiff, g1, hm1, hll, q1_, q2_]; (first | done | rfl))
    | (apply w_condX; · simp only [go_sem, Nat.reduceEqDiff, Nat.reduceAdd, Nat.reduceLeDiff, g1, hm1, hll]; (first | done | rfl)); (first | refine wcd_T ?_ | refine wcd_F ?_)
    | refine w_skip ?_ | refine w_exit ?_ | refine w_ret ?_
    | fail
    )
  refine w_block (w_rangeF ws.length hw (fun i fr σ => σ1 = σ ∧ ∀ j, j < i → badW wordM ws j = false) ⟨by decide, rfl, rfl⟩ (fun _ _ _ _ h => ⟨h, h, h⟩) ⟨rfl, fun j hj => by omega⟩ (by simp only [go_sem, Nat.reduceEqDiff, Nat.reduceAdd, Nat.reduceLeDiff]; first | done | rfl) (by simp only [go_sem, Nat.reduceEqDiff, Nat.reduceAdd, Nat.reduceLeDiff, hll]; first | done | rfl) ?_ ?_)
  · rintro i fr2 _ hi ⟨rfl, h3⟩ hti hfr
    have f0_1 := hfr 1 rfl; have f0_12 := hfr 12 rfl; have f0_13 := hfr 13 rfl; try (simp only [go_sem, Nat.reduceEqDiff, Nat.reduceAdd, Nat.reduceLeDiff, g1] at f0_1); try (simp only [go_sem, Nat.reduceEqDiff, Nat.reduceAdd, Nat.reduceLeDiff, g1] at f0_12); try (simp only [go_sem, Nat.reduceEqDiff, Nat.reduceAdd, Nat.reduceLeDiff, g1] at f0_13)
    have hx := List.getElem?_eq_getElem hi
    have hy := strs_at hx
    have hni := nthS_eq hi
    have e1 : (0 : Int) ≤ (i : Int) ∧ (i : Int) < (ws.length : Int) := by omega
    have hwd := a320 H.w H.a (hws _ (List.getElem_mem hi))
    refine w_block ?_
    (repeat' first
    | refine w_seq ?_ | refine w_rg ?_ | refine wo_nil ?_ | refine g_skU ?_ | refine g_skT ?_ | refine g_skF ?_
    | ((first | apply s_plain | apply s_void | apply s_guard | apply g_goT | apply g_goF); · simp only [go_sem, Nat.reduceEqDiff, Nat.reduceAdd, Nat.reduceLeDiff, f0_1, f0_12, f0_13, hti, e1, hll, Int.toNat_natCast, hy, hwd, hm1]; (first | done | rfl))
    | ((first | apply g_T | apply g_F | apply g_gT | apply g_gF); · intro q1_; (first | intro q2_ | have q2_ := q1_); simp only [go_sem, Nat.reduceEqDiff, Nat.reduceAdd, Nat.reduceLeDiff, f0_1, f0_12, f0_13, hti, e1, hll, Int.toNat_natCast, hy, hwd, hm1, q1_, q2_]; (first | done | rfl))
    | fail
    )
    have hx' : ws[i - 1]? = some (nthS ws (i - 1)) := by
      have : i - 1 < ws.length := by omega
      unfold nthS; rw [List.getElem?_eq_getElem this]; rfl
    have hy' := strs_at hx'
    refine g_gT (v := .fp (strs ws) (i - 1) 0) (by
      intro hb hc
      have hpos : 0 < i := by simpa using hc
      have e2 : IntKind.i64.wrap ((i : Int) - 1) = ((i - 1 : Nat) : Int) := by rw [IntKind.wrap_i64]; omega
      have e3 : (0 : Int) ≤ ((i - 1 : Nat) : Int) ∧ ((i - 1 : Nat) : Int) < (ws.length : Int) := by omega
      simp only [go_sem, Nat.reduceEqDiff, Nat.reduceAdd, Nat.reduceLeDiff, f0_1, f0_12, f0_13, hb, hc, e2, e3, hll, Int.toNat_natCast, hy', hm1]) ?_
    (repeat' first
    | refine w_seq ?_ | refine w_rg ?_ | refine wo_nil ?_ | refine g_skU ?_ | refine g_skT ?_ | refine g_skF ?_
    | ((first | apply s_plain | apply s_void | apply s_guard | apply g_goT | apply g_goF); · simp only [go_sem, Nat.reduceEqDiff, Nat.reduceAdd, Nat.reduceLeDiff, f0_1, f0_12, f0_13, hy', hm1]; (first | done | rfl))
    | ((first | apply g_T | apply g_F | apply g_gT | apply g_gF); · intro q1_; (first | intro q2_ | have q2_ := q1_); simp only [go_sem, Nat.reduceEqDiff, Nat.reduceAdd, Nat.reduceLeDiff, f0_1, f0_12, f0_13, hy', hm1, q1_, q2_]; (first | done | rfl))
    | fail
    )
    have hbad : badW wordM ws i = (!wordM ws[i] || (decide ((i : Int) > 0) && !Op.bytesLess (nthS ws (i - 1)).toList ws[i].toList)) := by unfold badW lessB; rw [hni]
    cases hpi : badW wordM ws i with
    | true =>
      refine w_condT (by simp only [go_sem, Nat.reduceEqDiff, Nat.reduceAdd, Nat.reduceLeDiff]; rw [hbad] at hpi; exact congrArg (fun b => PV.sc (.bool b)) hpi) ?_
      (repeat' first
    | refine w_seq ?_ | refine w_rg ?_ | refine wo_nil ?_ | refine g_skU ?_ | refine g_skT ?_ | refine g_skF ?_
    | ((first | apply s_plain | apply s_void | apply s_guard | apply g_goT | apply g_goF); · simp only [go_sem, Nat.reduceEqDiff, Nat.reduceAdd, Nat.reduceLeDiff]; (first | done | rfl))
    | ((first | apply g_T | apply g_F | apply g_gT | apply g_gF); · intro q1_; (first | intro q2_ | have q2_ := q1_); simp only [go_sem, Nat.reduceEqDiff, Nat.reduceAdd, Nat.reduceLeDiff, q1_, q2_]; (first | done | rfl))
    | (apply w_condX; · simp only [go_sem, Nat.reduceEqDiff, Nat.reduceAdd, Nat.reduceLeDiff]; (first | done | rfl)); (first | refine wcd_T ?_ | refine wcd_F ?_)
    | refine w_skip ?_ | refine w_exit ?_ | refine w_ret ?_
    | fail
    )
      have hr : rightM ⟨n, how, ws⟩ = false := by unfold rightM; rw [rise_hit hi hpi]; rfl
      exact ⟨by first | exact .inr rfl | exact .inr trivial | exact .inl rfl, by simp only [go_sem, Nat.reduceEqDiff, Nat.reduceAdd, Nat.reduceLeDiff, retOf, resOf, hr]; first | done | rfl⟩
    | false =>
      refine w_condF (by simp only [go_sem, Nat.reduceEqDiff, Nat.reduceAdd, Nat.reduceLeDiff]; rw [hbad] at hpi; exact congrArg (fun b => PV.sc (.bool b)) hpi) ?_
      (repeat' first
    | refine w_seq ?_ | refine w_rg ?_ | refine wo_nil ?_ | refine g_skU ?_ | refine g_skT ?_ | refine g_skF ?_
    | ((first | apply s_plain | apply s_void | apply s_guard | apply g_goT | apply g_goF); · simp only [go_sem, Nat.reduceEqDiff, Nat.reduceAdd, Nat.reduceLeDiff]; (first | done | rfl))
    | ((first | apply g_T | apply g_F | apply g_gT | apply g_gF); · intro q1_; (first | intro q2_ | have q2_ := q1_); simp only [go_sem, Nat.reduceEqDiff, Nat.reduceAdd, Nat.reduceLeDiff, q1_, q2_]; (first | done | rfl))
    | (apply w_condX; · simp only [go_sem, Nat.reduceEqDiff, Nat.reduceAdd, Nat.reduceLeDiff]; (first | done | rfl)); (first | refine wcd_T ?_ | refine wcd_F ?_)
    | refine w_skip ?_ | refine w_exit ?_ | refine w_ret ?_
    | fail
    )
      refine ⟨rfl, fun j hj => ?_⟩
      by_cases hji : j = i
      · rw [hji]; exact hpi
      · exact h3 j (by omega)
  · rintro fr2 _ ⟨rfl, h3⟩ hfr
    have e0_1 := hfr 1 rfl; have e0_3 := hfr 3 rfl; try (simp only [go_sem, Nat.reduceEqDiff, Nat.reduceAdd, Nat.reduceLeDiff, g1, g3] at e0_1); try (simp only [go_sem, Nat.reduceEqDiff, Nat.reduceAdd, Nat.reduceLeDiff, g1, g3] at e0_3)
    try simp only [if_true]
    obtain ⟨r, hr1, hr2⟩ := sign_find how
    obtain ⟨τ, hτ, hτm, hτM⟩ := a321 H.a (σ := σ1)
    have hmτ : τ.m 2000001 0 = some ⟨3, [.agg [.sc (.string n), .sc (.int .i64 how), .sl (strs ws)]], true, true⟩ := by rw [hτm]; exact hm1
    have hrise := rise_all (ok := wordM) h3
    (repeat' first
    | refine w_seq ?_ | refine w_rg ?_ | refine wo_nil ?_ | refine g_skU ?_ | refine g_skT ?_ | refine g_skF ?_
    | ((first | apply s_plain | apply s_void | apply s_guard | apply g_goT | apply g_goF); · simp only [go_sem, Nat.reduceEqDiff, Nat.reduceAdd, Nat.reduceLeDiff]; (first | done | rfl))
    | ((first | apply g_T | apply g_F | apply g_gT | apply g_gF); · intro q1_; (first | intro q2_ | have q2_ := q1_); simp only [go_sem, Nat.reduceEqDiff, Nat.reduceAdd, Nat.reduceLeDiff, q1_, q2_]; (first | done | rfl))
    | (apply w_condX; · simp only [go_sem, Nat.reduceEqDiff, Nat.reduceAdd, Nat.reduceLeDiff]; (first | done | rfl)); (first | refine wcd_T ?_ | refine wcd_F ?_)
    | refine w_skip ?_ | refine w_exit ?_ | refine w_ret ?_
    | fail
    )
    apply w_rg2
    · (repeat' first
    | refine w_seq ?_ | refine w_rg ?_ | refine wo_nil ?_ | refine g_skU ?_ | refine g_skT ?_ | refine g_skF ?_
    | ((first | apply s_plain | apply s_void | apply s_guard | apply g_goT | apply g_goF); · simp only [go_sem, Nat.reduceEqDiff, Nat.reduceAdd, Nat.reduceLeDiff, e0_1, e0_3, g1, g3, hm1, hτ, hmτ, hτM, hr1, hr2]; (first | done | rfl))
    | ((first | apply g_T | apply g_F | apply g_gT | apply g_gF); · intro q1_; (first | intro q2_ | have q2_ := q1_); simp only [go_sem, Nat.reduceEqDiff, Nat.reduceAdd, Nat.reduceLeDiff, e0_1, e0_3, g1, g3, hm1, hτ, hmτ, hτM, hr1, hr2, q1_, q2_]; (first | done | rfl))
    | fail
    )
      exact ⟨rfl, rfl⟩
    · (repeat' first
    | refine w_seq ?_ | refine w_rg ?_ | refine wo_nil ?_ | refine g_skU ?_ | refine g_skT ?_ | refine g_skF ?_
    | ((first | apply s_plain | apply s_void | apply s_guard | apply g_goT | apply g_goF); · simp only [go_sem, Nat.reduceEqDiff, Nat.reduceAdd, Nat.reduceLeDiff, e0_1, e0_3, g1, g3, hm1, hτ, hmτ, hτM, hr1, hr2]; (first | done | rfl))
    | ((first | apply g_T | apply g_F | apply g_gT | apply g_gF); · intro q1_; (first | intro q2_ | have q2_ := q1_); simp only [go_sem, Nat.reduceEqDiff, Nat.reduceAdd, Nat.reduceLeDiff, e0_1, e0_3, g1, g3, hm1, hτ, hmτ, hτM, hr1, hr2, q1_, q2_]; (first | done | rfl))
    | fail
    )
      refine ⟨?_, rfl⟩
      rw [set_swap _ (show (38 : Nat) ≠ 40 by decide)]
    · cases hb : (decide (1 ≤ how) && decide (how ≤ 4)) with
      | true =>
        (repeat' first
    | refine w_seq ?_ | refine w_rg ?_ | refine wo_nil ?_ | refine g_skU ?_ | refine g_skT ?_ | refine g_skF ?_
    | ((first | apply s_plain | apply s_void | apply s_guard | apply g_goT | apply g_goF); · simp only [go_sem, Nat.reduceEqDiff, Nat.reduceAdd, Nat.reduceLeDiff, e0_1, e0_3, g1, g3, hmτ, h113, hll, hb]; (first | done | rfl))
    | ((first | apply g_T | apply g_F | apply g_gT | apply g_gF); · intro q1_; (first | intro q2_ | have q2_ := q1_); simp only [go_sem, Nat.reduceEqDiff, Nat.reduceAdd, Nat.reduceLeDiff, e0_1, e0_3, g1, g3, hmτ, h113, hll, hb, q1_, q2_]; (first | done | rfl))
    | (apply w_condX; · simp only [go_sem, Nat.reduceEqDiff, Nat.reduceAdd, Nat.reduceLeDiff, e0_1, e0_3, g1, g3, hmτ, h113, hll, hb]; (first | done | rfl)); (first | refine wcd_T ?_ | refine wcd_F ?_)
    | refine w_skip ?_ | refine w_exit ?_ | refine w_ret ?_
    | fail
    )
        have hr : rightM ⟨n, how, ws⟩ = (nameB n && decide ((ws.length : Int) ≥ 1) && decide ((ws.length : Int) ≤ (mostM how : Int))) := by
          unfold rightM
          rw [hrise, hb]
          simp only [Bool.true_and]
          congr 1
          · congr 1
            rw [decide_eq_decide]; omega
          · rw [decide_eq_decide]; omega
        exact ⟨by first | exact .inr rfl | exact .inr trivial | exact .inl rfl, by simp only [go_sem, Nat.reduceEqDiff, Nat.reduceAdd, Nat.reduceLeDiff, retOf, resOf, hr]; first | done | rfl⟩
      | false =>
        (repeat' first
    | refine w_seq ?_ | refine w_rg ?_ | refine wo_nil ?_ | refine g_skU ?_ | refine g_skT ?_ | refine g_skF ?_
    | ((first | apply s_plain | apply s_void | apply s_guard | apply g_goT | apply g_goF); · simp only [go_sem, Nat.reduceEqDiff, Nat.reduceAdd, Nat.reduceLeDiff, e0_1, e0_3, g1, g3, hmτ, h113, hll, hb]; (first | done | rfl))
    | ((first | apply g_T | apply g_F | apply g_gT | apply g_gF); · intro q1_; (first | intro q2_ | have q2_ := q1_); simp only [go_sem, Nat.reduceEqDiff, Nat.reduceAdd, Nat.reduceLeDiff, e0_1, e0_3, g1, g3, hmτ, h113, hll, hb, q1_, q2_]; (first | done | rfl))
    | (apply w_condX; · simp only [go_sem, Nat.reduceEqDiff, Nat.reduceAdd, Nat.reduceLeDiff, e0_1, e0_3, g1, g3, hmτ, h113, hll, hb]; (first | done | rfl)); (first | refine wcd_T ?_ | refine wcd_F ?_)
    | refine w_skip ?_ | refine w_exit ?_ | refine w_ret ?_
    | fail
    )
        have hr : rightM ⟨n, how, ws⟩ = false := by unfold rightM; rw [hrise, hb]; rfl
        exact ⟨by first | exact .inr rfl | exact .inr trivial | exact .inl rfl, by simp only [go_sem, Nat.reduceEqDiff, Nat.reduceAdd, Nat.reduceLeDiff, retOf, resOf, hr]; first | done | rfl⟩
theorem a305 (H : Mm4 env) {m : Mt} (hm : m.Held) : AV env 305 [mt m] = some (.sc (.bool (!rightM m))) := by
  have h := a306 H hm
  refine AV_wp (H.a (305, d305) (by simp [lka])) rfl ?_
  unfold mt at h ⊢
  (repeat' first
    | refine w_seq ?_ | refine w_rg ?_ | refine wo_nil ?_ | refine g_skU ?_ | refine g_skT ?_ | refine g_skF ?_
    | ((first | apply s_plain | apply s_void | apply s_guard | apply g_goT | apply g_goF); · simp only [go_sem, Nat.reduceEqDiff, Nat.reduceAdd, Nat.reduceLeDiff, h]; (first | done | rfl))
    | ((first | apply g_T | apply g_F | apply g_gT | apply g_gF); · intro q1_; (first | intro q2_ | have q2_ := q1_); simp only [go_sem, Nat.reduceEqDiff, Nat.reduceAdd, Nat.reduceLeDiff, h, q1_, q2_]; (first | done | rfl))
    | (apply w_condX; · simp only [go_sem, Nat.reduceEqDiff, Nat.reduceAdd, Nat.reduceLeDiff, h]; (first | done | rfl)); (first | refine wcd_T ?_ | refine wcd_F ?_)
    | refine w_skip ?_ | refine w_exit ?_ | refine w_ret ?_
    | fail
    )
  exact ⟨.inr rfl, by simp only [go_sem, Nat.reduceEqDiff, Nat.reduceAdd, Nat.reduceLeDiff, retOf, resOf]⟩
theorem found_not {α : Type} (l : List α) (ok : α → Bool) (p : Nat → Bool) (hp : ∀ (i : Nat) x, l[i]? = some x → p i = !ok x) : decide (found p l.length ≥ 0) = !l.all ok := by
  cases h : l.all ok with
  | true =>
    rw [found_none (fun j hj => by
      have hx := List.getElem?_eq_getElem hj
      rw [hp j _ hx, List.all_eq_true.1 h _ (List.getElem_mem hj)]; rfl)]
    rfl
  | false =>
    obtain ⟨x, hx, hb⟩ := List.all_eq_false.1 h
    obtain ⟨i, hi⟩ := List.getElem?_of_mem hx
    have hlt := (List.getElem?_eq_some_iff.1 hi).1
    have : found p l.length ≥ 0 := by
      rcases Int.lt_or_le (found p l.length) 0 with hneg | hpos
      · exfalso
        have hall : ∀ j, j < l.length → p j = false := by
          intro j hj
          unfold found at hneg
          cases hf : (List.range l.length).find? p with
          | none =>
            rw [List.find?_range_eq_none] at hf
            simpa using hf j hj
          | some k => rw [hf] at hneg; simp at hneg; omega
        have h2 := hall i hlt
        rw [hp i x hi] at h2
        simp at h2
        rw [h2] at hb
        exact hb rfl
      · exact hpos
    rw [decide_eq_true this]; rfl
theorem a307 (H : Mm4 env) {l : List Mt} {k : Nat} {b : List PV} (ok : Mt → Bool) (hn : l.length ≤ 9223372036854775807) (hz : ∀ σ, b.mapM (fz σ 11) = some b) (hz' : ∀ σ, b.mapM (fz σ 12) = some b)
    (hp : ∀ m ∈ l, AV env k (mt m :: b) = some (.sc (.bool (!ok m)))) : AV env 307 [.sl (mts l), .fn k [] b] = some (.sc (.bool (!l.all ok))) := by
  have hll := mts_len l
  have h322 : AV env 322 [.sl (mts l), .fn k [] b] = some (.sc (.int .i64 (found (fun i => !ok (l.getD i ⟨⟨#[]⟩, 0, []⟩)) l.length))) := by
    rw [← hll]
    refine idxS (es := 3) (k := k) (a := []) (b := b) (p := fun i => !ok (l.getD i ⟨⟨#[]⟩, 0, []⟩)) (by rw [← dIF_3]; exact H.a (322, d322) (by simp [lka])) (by rw [hll]; exact hn) (fun i e h => ?_) (fun i e h σ => ?_) (fun i e h => ?_)
    · unfold mts at h
      rw [List.getElem?_map] at h
      obtain ⟨m, _, rfl⟩ := Option.map_eq_some_iff.1 h
      exact ⟨_, rfl, rfl⟩
    · unfold mts at h
      rw [List.getElem?_map] at h
      obtain ⟨m, _, rfl⟩ := Option.map_eq_some_iff.1 h
      rw [List.nil_append, List.singleton_append, mapM_cons', hz' σ]
      rfl
    · unfold mts at h
      rw [List.getElem?_map] at h
      obtain ⟨m, hm, rfl⟩ := Option.map_eq_some_iff.1 h
      have hg : l.getD i ⟨⟨#[]⟩, 0, []⟩ = m := by rw [List.getD_eq_getElem?_getD, hm]; rfl
      simp only [hg]
      exact hp m (List.mem_of_getElem? hm)
  have hf := found_not l ok (fun i => !ok (l.getD i ⟨⟨#[]⟩, 0, []⟩)) (fun i x hx => by rw [List.getD_eq_getElem?_getD, hx]; rfl)
  refine AV_wp (H.a (307, d307) (by simp [lka])) rfl ?_
  (repeat' first
    | refine w_seq ?_ | refine w_rg ?_ | refine wo_nil ?_ | refine g_skU ?_ | refine g_skT ?_ | refine g_skF ?_
    | ((first | apply s_plain | apply s_void | apply s_guard | apply g_goT | apply g_goF); · simp only [go_sem, Nat.reduceEqDiff, Nat.reduceAdd, Nat.reduceLeDiff, h322, hz]; (first | done | rfl))
    | ((first | apply g_T | apply g_F | apply g_gT | apply g_gF); · intro q1_; (first | intro q2_ | have q2_ := q1_); simp only [go_sem, Nat.reduceEqDiff, Nat.reduceAdd, Nat.reduceLeDiff, h322, hz, q1_, q2_]; (first | done | rfl))
    | (apply w_condX; · simp only [go_sem, Nat.reduceEqDiff, Nat.reduceAdd, Nat.reduceLeDiff, h322, hz]; (first | done | rfl)); (first | refine wcd_T ?_ | refine wcd_F ?_)
    | refine w_skip ?_ | refine w_exit ?_ | refine w_ret ?_
    | fail
    )
  exact ⟨.inr rfl, by simp only [go_sem, Nat.reduceEqDiff, Nat.reduceAdd, Nat.reduceLeDiff, retOf, resOf, hf]⟩
theorem hasN_eq (l : List ByteArray) (s : ByteArray) : hasN l s = memB l s := by
  unfold hasN
  have := found_not l (fun x => !decide (s = x)) (isS l s) (fun i x hx => by
    unfold isS nthS
    rw [hx, Option.getD_some, ba_beq, Bool.not_not])
  rw [this]
  unfold memB
  rw [List.not_all_eq_any_not]
  congr 1
  funext y
  exact Bool.not_not _
theorem a308 (H : Mm4 env) {m : Mt} {l : List Lab} (hm : m.Held) (hl : l.length ≤ 9223372036854775807) : AV env 308 [mt m, .fp [.sl (labs l)] 0 0] = some (.sc (.bool (!holdsM l m))) := by
  have h1 := a114 H.c (l := l) (n := m.n) hl
  have h2 := a50 H.x (l := m.ws) hm.ws (getB l m.n)
  rw [hasN_eq] at h2
  refine AV_wp (H.a (308, d308) (by simp [lka])) rfl ?_
  unfold mt
  (repeat' first
    | refine w_seq ?_ | refine w_rg ?_ | refine wo_nil ?_ | refine g_skU ?_ | refine g_skT ?_ | refine g_skF ?_
    | ((first | apply s_plain | apply s_void | apply s_guard | apply g_goT | apply g_goF); · simp only [go_sem, Nat.reduceEqDiff, Nat.reduceAdd, Nat.reduceLeDiff, h1, h2]; (first | done | rfl))
    | ((first | apply g_T | apply g_F | apply g_gT | apply g_gF); · intro q1_; (first | intro q2_ | have q2_ := q1_); simp only [go_sem, Nat.reduceEqDiff, Nat.reduceAdd, Nat.reduceLeDiff, h1, h2, q1_, q2_]; (first | done | rfl))
    | (apply w_condX; · simp only [go_sem, Nat.reduceEqDiff, Nat.reduceAdd, Nat.reduceLeDiff, h1, h2]; (first | done | rfl)); (first | refine wcd_T ?_ | refine wcd_F ?_)
    | refine w_skip ?_ | refine w_exit ?_ | refine w_ret ?_
    | fail
    )
  have e : (!holdsM l m) = (memB m.ws (getB l m.n) == (m.how == 2 || m.how == 4)) := by unfold holdsM; rw [Bool.not_not]
  exact ⟨by first | exact .inr rfl | exact .inr trivial | exact .inl rfl, by simp only [go_sem, Nat.reduceEqDiff, Nat.reduceAdd, Nat.reduceLeDiff, retOf, resOf, e, Bool.bne_false]; first | done | rfl⟩
theorem a299 (H : Mm4 env) {ms : List Mt} {l : List Lab} (hms : ms.length ≤ 9223372036854775807) (hm : ∀ m ∈ ms, m.Held) (hl : l.length ≤ 9223372036854775807) (hs : Smalls l) :
    AV env 299 [.sl (labs l), .sl (mts ms)] = some (if rightL l && ms.all rightM then .tu [.sc (.bool (holdsA l ms)), .sc (.int .i64 0)] else .tu [.sc (.bool false), .sc (.int .i64 1)]) := by
  have h1 := a113 H.l H.c hl hs
  have h2 := a307 H (l := ms) (k := 305) (b := []) rightM hms (fun _ => rfl) (fun _ => rfl) (fun m h => a305 H (hm m h))
  have h3 := a307 H (l := ms) (k := 308) (b := [.fp [.sl (labs l)] 0 0]) (holdsM l) hms (fun _ => rfl) (fun _ => rfl) (fun m h => a308 H (hm m h) hl)
  refine AV_wp (H.a (299, d299) (by simp [lka])) rfl ?_
  (repeat' first
    | refine w_seq ?_ | refine w_rg ?_ | refine wo_nil ?_ | refine g_skU ?_ | refine g_skT ?_ | refine g_skF ?_
    | ((first | apply s_plain | apply s_void | apply s_guard | apply g_goT | apply g_goF); · simp only [go_sem, Nat.reduceEqDiff, Nat.reduceAdd, Nat.reduceLeDiff, h1, h2]; (first | done | rfl))
    | ((first | apply g_T | apply g_F | apply g_gT | apply g_gF); · intro q1_; (first | intro q2_ | have q2_ := q1_); simp only [go_sem, Nat.reduceEqDiff, Nat.reduceAdd, Nat.reduceLeDiff, h1, h2, q1_, q2_]; (first | done | rfl))
    | fail
    )
  cases hr : rightL l with
  | false =>
    (repeat' first
    | refine w_seq ?_ | refine w_rg ?_ | refine wo_nil ?_ | refine g_skU ?_ | refine g_skT ?_ | refine g_skF ?_
    | ((first | apply s_plain | apply s_void | apply s_guard | apply g_goT | apply g_goF); · simp only [go_sem, Nat.reduceEqDiff, Nat.reduceAdd, Nat.reduceLeDiff, hr]; (first | done | rfl))
    | ((first | apply g_T | apply g_F | apply g_gT | apply g_gF); · intro q1_; (first | intro q2_ | have q2_ := q1_); simp only [go_sem, Nat.reduceEqDiff, Nat.reduceAdd, Nat.reduceLeDiff, hr, q1_, q2_]; (first | done | rfl))
    | (apply w_condX; · simp only [go_sem, Nat.reduceEqDiff, Nat.reduceAdd, Nat.reduceLeDiff, hr]; (first | done | rfl)); (first | refine wcd_T ?_ | refine wcd_F ?_)
    | refine w_skip ?_ | refine w_exit ?_ | refine w_ret ?_
    | fail
    )
    exact ⟨.inr rfl, by simp only [go_sem, Nat.reduceEqDiff, Nat.reduceAdd, Nat.reduceLeDiff, retOf, resOf, Bool.false_and]⟩
  | true =>
    cases hm2 : ms.all rightM with
    | false =>
      (repeat' first
    | refine w_seq ?_ | refine w_rg ?_ | refine wo_nil ?_ | refine g_skU ?_ | refine g_skT ?_ | refine g_skF ?_
    | ((first | apply s_plain | apply s_void | apply s_guard | apply g_goT | apply g_goF); · simp only [go_sem, Nat.reduceEqDiff, Nat.reduceAdd, Nat.reduceLeDiff, hr, hm2]; (first | done | rfl))
    | ((first | apply g_T | apply g_F | apply g_gT | apply g_gF); · intro q1_; (first | intro q2_ | have q2_ := q1_); simp only [go_sem, Nat.reduceEqDiff, Nat.reduceAdd, Nat.reduceLeDiff, hr, hm2, q1_, q2_]; (first | done | rfl))
    | (apply w_condX; · simp only [go_sem, Nat.reduceEqDiff, Nat.reduceAdd, Nat.reduceLeDiff, hr, hm2]; (first | done | rfl)); (first | refine wcd_T ?_ | refine wcd_F ?_)
    | refine w_skip ?_ | refine w_exit ?_ | refine w_ret ?_
    | fail
    )
      exact ⟨.inr rfl, by simp only [go_sem, Nat.reduceEqDiff, Nat.reduceAdd, Nat.reduceLeDiff, retOf, resOf, Bool.and_false]⟩
    | true =>
      (repeat' first
    | refine w_seq ?_ | refine w_rg ?_ | refine wo_nil ?_ | refine g_skU ?_ | refine g_skT ?_ | refine g_skF ?_
    | ((first | apply s_plain | apply s_void | apply s_guard | apply g_goT | apply g_goF); · simp only [go_sem, Nat.reduceEqDiff, Nat.reduceAdd, Nat.reduceLeDiff, hr, hm2, h3]; (first | done | rfl))
    | ((first | apply g_T | apply g_F | apply g_gT | apply g_gF); · intro q1_; (first | intro q2_ | have q2_ := q1_); simp only [go_sem, Nat.reduceEqDiff, Nat.reduceAdd, Nat.reduceLeDiff, hr, hm2, h3, q1_, q2_]; (first | done | rfl))
    | (apply w_condX; · simp only [go_sem, Nat.reduceEqDiff, Nat.reduceAdd, Nat.reduceLeDiff, hr, hm2, h3]; (first | done | rfl)); (first | refine wcd_T ?_ | refine wcd_F ?_)
    | refine w_skip ?_ | refine w_exit ?_ | refine w_ret ?_
    | fail
    )
      exact ⟨.inr rfl, by simp only [go_sem, Nat.reduceEqDiff, Nat.reduceAdd, Nat.reduceLeDiff, retOf, resOf, holdsA, Bool.not_not]⟩
end

def intsR (l : List Int) : List PV := l.map fun n => .sc (.int .i64 n)
section
variable {env : Nat → Option Def} {fr : Fr} {σ σ' σ'' : St} {K : Fr → St → Prop} {Q : X → Fr → St → Prop} {p : PV} {bs : List UInt8}
theorem a325 (B : Has lkb env) (n least : Int) : AV env 325 [.sc (.int .i64 n), .fp [.sc (.int .i64 least)] 0 0] = some (.sc (.bool (!inT n least))) := by
  refine AV_wp (B (325, d325) (by simp [lkb])) rfl ?_
  (repeat' first
    | refine w_seq ?_ | refine w_rg ?_ | refine wo_nil ?_ | refine g_skU ?_ | refine g_skT ?_ | refine g_skF ?_
    | ((first | apply s_plain | apply s_void | apply s_guard | apply g_goT | apply g_goF); · simp only [go_sem, Nat.reduceEqDiff, Nat.reduceAdd, Nat.reduceLeDiff]; (first | done | rfl))
    | ((first | apply g_T | apply g_F | apply g_gT | apply g_gF); · intro q1_; (first | intro q2_ | have q2_ := q1_); simp only [go_sem, Nat.reduceEqDiff, Nat.reduceAdd, Nat.reduceLeDiff, q1_, q2_]; (first | done | rfl))
    | (apply w_condX; · simp only [go_sem, Nat.reduceEqDiff, Nat.reduceAdd, Nat.reduceLeDiff]; (first | done | rfl)); (first | refine wcd_T ?_ | refine wcd_F ?_)
    | refine w_skip ?_ | refine w_exit ?_ | refine w_ret ?_
    | fail
    )
  have e : (!inT n least) = (decide (n < least) || decide (n > 1099511627776)) := by
    unfold inT
    rw [Bool.not_and, ← decide_not, ← decide_not]
    congr 1
    · rw [decide_eq_decide]; omega
    · rw [decide_eq_decide]; omega
  exact ⟨by first | exact .inr rfl | exact .inr trivial | exact .inl rfl, by simp only [go_sem, Nat.reduceEqDiff, Nat.reduceAdd, Nat.reduceLeDiff, retOf, resOf, e]; first | done | rfl⟩
theorem d329_eq : d329 = d85 := rfl
theorem a317 (B : Has lkb env) {l : List Int} (hn : l.length ≤ 9223372036854775807) (least : Int) : AV env 317 [.sc (.int .i64 least), .sl (intsR l)] = some (.sc (.bool (l.all fun n => inT n least))) := by
  have hll : (intsR l).length = l.length := by simp [intsR]
  have h329 : AV env 329 [.sl (intsR l), .fn 325 [] [.fp [.sc (.int .i64 least)] 0 0]] = some (.sc (.int .i64 (found (fun i => !inT (l.getD i 0) least) l.length))) := by
    rw [← hll]
    refine a85g (k := 325) (a := []) (b := [.fp [.sc (.int .i64 least)] 0 0]) (p := fun i => !inT (l.getD i 0) least) (by rw [← d329_eq]; exact B (329, d329) (by simp [lkb])) (by rw [hll]; exact hn) (fun i e h => ?_) (fun i e h σ => ?_) (fun i e h => ?_)
    · unfold intsR at h
      rw [List.getElem?_map] at h
      obtain ⟨m, _, rfl⟩ := Option.map_eq_some_iff.1 h
      rfl
    · unfold intsR at h
      rw [List.getElem?_map] at h
      obtain ⟨m, _, rfl⟩ := Option.map_eq_some_iff.1 h
      rfl
    · unfold intsR at h
      rw [List.getElem?_map] at h
      obtain ⟨m, hm, rfl⟩ := Option.map_eq_some_iff.1 h
      have hg : l.getD i 0 = m := by rw [List.getD_eq_getElem?_getD, hm]; rfl
      simp only [hg]
      exact a325 B m least
  have hf := found_not l (fun n => inT n least) (fun i => !inT (l.getD i 0) least) (fun i x hx => by rw [List.getD_eq_getElem?_getD, hx]; rfl)
  have h324 : AV env 324 [.sl (intsR l), .fn 325 [] [.fp [.sc (.int .i64 least)] 0 0]] = some (.sc (.bool (!l.all fun n => inT n least))) := by
    refine AV_wp (B (324, d324) (by simp [lkb])) rfl ?_
    (repeat' first
    | refine w_seq ?_ | refine w_rg ?_ | refine wo_nil ?_ | refine g_skU ?_ | refine g_skT ?_ | refine g_skF ?_
    | ((first | apply s_plain | apply s_void | apply s_guard | apply g_goT | apply g_goF); · simp only [go_sem, Nat.reduceEqDiff, Nat.reduceAdd, Nat.reduceLeDiff, h329]; (first | done | rfl))
    | ((first | apply g_T | apply g_F | apply g_gT | apply g_gF); · intro q1_; (first | intro q2_ | have q2_ := q1_); simp only [go_sem, Nat.reduceEqDiff, Nat.reduceAdd, Nat.reduceLeDiff, h329, q1_, q2_]; (first | done | rfl))
    | (apply w_condX; · simp only [go_sem, Nat.reduceEqDiff, Nat.reduceAdd, Nat.reduceLeDiff, h329]; (first | done | rfl)); (first | refine wcd_T ?_ | refine wcd_F ?_)
    | refine w_skip ?_ | refine w_exit ?_ | refine w_ret ?_
    | fail
    )
    exact ⟨.inr rfl, by simp only [go_sem, Nat.reduceEqDiff, Nat.reduceAdd, Nat.reduceLeDiff, retOf, resOf, hf]⟩
  refine AV_wp (B (317, d317) (by simp [lkb])) rfl ?_
  (repeat' first
    | refine w_seq ?_ | refine w_rg ?_ | refine wo_nil ?_ | refine g_skU ?_ | refine g_skT ?_ | refine g_skF ?_
    | ((first | apply s_plain | apply s_void | apply s_guard | apply g_goT | apply g_goF); · simp only [go_sem, Nat.reduceEqDiff, Nat.reduceAdd, Nat.reduceLeDiff, h324]; (first | done | rfl))
    | ((first | apply g_T | apply g_F | apply g_gT | apply g_gF); · intro q1_; (first | intro q2_ | have q2_ := q1_); simp only [go_sem, Nat.reduceEqDiff, Nat.reduceAdd, Nat.reduceLeDiff, h324, q1_, q2_]; (first | done | rfl))
    | (apply w_condX; · simp only [go_sem, Nat.reduceEqDiff, Nat.reduceAdd, Nat.reduceLeDiff, h324]; (first | done | rfl)); (first | refine wcd_T ?_ | refine wcd_F ?_)
    | refine w_skip ?_ | refine w_exit ?_ | refine w_ret ?_
    | fail
    )
  exact ⟨.inr rfl, by simp only [go_sem, Nat.reduceEqDiff, Nat.reduceAdd, Nat.reduceLeDiff, retOf, resOf, Bool.not_not]⟩
theorem a314 (H : Mm4 env) (B : Has lkb env) {s : ByteArray} (hs : Small s) : AV env 314 [.sc (.string s)] = some (.sc (.bool (wordB s))) := by
  have h9 := a9e H.w H.f hs
  unfold bare at h9
  refine AV_wp (B (314, d314) (by simp [lkb])) rfl ?_
  (repeat' first
    | refine w_seq ?_ | refine w_rg ?_ | refine wo_nil ?_ | refine g_skU ?_ | refine g_skT ?_ | refine g_skF ?_
    | ((first | apply s_plain | apply s_void | apply s_guard | apply g_goT | apply g_goF); · simp only [go_sem, Nat.reduceEqDiff, Nat.reduceAdd, Nat.reduceLeDiff, h9]; (first | done | rfl))
    | ((first | apply g_T | apply g_F | apply g_gT | apply g_gF); · intro q1_; (first | intro q2_ | have q2_ := q1_); simp only [go_sem, Nat.reduceEqDiff, Nat.reduceAdd, Nat.reduceLeDiff, h9, q1_, q2_]; (first | done | rfl))
    | (apply w_condX; · simp only [go_sem, Nat.reduceEqDiff, Nat.reduceAdd, Nat.reduceLeDiff, h9]; (first | done | rfl)); (first | refine wcd_T ?_ | refine wcd_F ?_)
    | refine w_skip ?_ | refine w_exit ?_ | refine w_ret ?_
    | fail
    )
  exact ⟨.inr rfl, by simp only [go_sem, Nat.reduceEqDiff, Nat.reduceAdd, Nat.reduceLeDiff, retOf, resOf]⟩
theorem a316 (H : Mm4 env) (B : Has lkb env) {s : ByteArray} (hs : Small s) : AV env 316 [.sc (.string s)] = some (.sc (.bool (nameB s))) := by
  have h9 := a113n H.l H.c hs
  refine AV_wp (B (316, d316) (by simp [lkb])) rfl ?_
  (repeat' first
    | refine w_seq ?_ | refine w_rg ?_ | refine wo_nil ?_ | refine g_skU ?_ | refine g_skT ?_ | refine g_skF ?_
    | ((first | apply s_plain | apply s_void | apply s_guard | apply g_goT | apply g_goF); · simp only [go_sem, Nat.reduceEqDiff, Nat.reduceAdd, Nat.reduceLeDiff, h9]; (first | done | rfl))
    | ((first | apply g_T | apply g_F | apply g_gT | apply g_gF); · intro q1_; (first | intro q2_ | have q2_ := q1_); simp only [go_sem, Nat.reduceEqDiff, Nat.reduceAdd, Nat.reduceLeDiff, h9, q1_, q2_]; (first | done | rfl))
    | (apply w_condX; · simp only [go_sem, Nat.reduceEqDiff, Nat.reduceAdd, Nat.reduceLeDiff, h9]; (first | done | rfl)); (first | refine wcd_T ?_ | refine wcd_F ?_)
    | refine w_skip ?_ | refine w_exit ?_ | refine w_ret ?_
    | fail
    )
  exact ⟨.inr rfl, by simp only [go_sem, Nat.reduceEqDiff, Nat.reduceAdd, Nat.reduceLeDiff, retOf, resOf]⟩
theorem a315 (B : Has lkb env) {l : List ByteArray} {k : Nat} (ok : ByteArray → Bool) (hn : l.length ≤ 9223372036854775807) (hp : ∀ s ∈ l, AV env k [.sc (.string s)] = some (.sc (.bool (ok s)))) :
    AV env 315 [.sl (strs l), .fn k [] []] = some (.sc (.bool (riseB ok l && decide ((l.length : Int) ≤ 8)))) := by
  have hll := strs_len l
  refine AV_wp (B (315, d315) (by simp [lkb])) rfl ?_
  (repeat' first
    | refine w_seq ?_ | refine w_rg ?_ | refine wo_nil ?_ | refine g_skU ?_ | refine g_skT ?_ | refine g_skF ?_
    | ((first | apply s_plain | apply s_void | apply s_guard | apply g_goT | apply g_goF); · simp only [go_sem, Nat.reduceEqDiff, Nat.reduceAdd, Nat.reduceLeDiff, hll]; (first | done | rfl))
    | ((first | apply g_T | apply g_F | apply g_gT | apply g_gF); · intro q1_; (first | intro q2_ | have q2_ := q1_); simp only [go_sem, Nat.reduceEqDiff, Nat.reduceAdd, Nat.reduceLeDiff, hll, q1_, q2_]; (first | done | rfl))
    | fail
    )
  refine w_block (w_rangeF l.length hn (fun i fr σ => ∀ j, j < i → badW ok l j = false) ⟨by decide, rfl, rfl⟩ (fun _ _ _ _ h => ⟨h, h, h⟩) (fun j hj => by omega) (by simp only [go_sem, Nat.reduceEqDiff, Nat.reduceAdd, Nat.reduceLeDiff]; first | done | rfl) (by simp only [go_sem, Nat.reduceEqDiff, Nat.reduceAdd, Nat.reduceLeDiff, hll]; first | done | rfl) ?_ ?_)
  · rintro i fr2 σ2 hi h3 hti hfr
    have f0_0 := hfr 0 rfl; have f0_1 := hfr 1 rfl; have f0_7 := hfr 7 rfl; have f0_8 := hfr 8 rfl; try (simp only [go_sem, Nat.reduceEqDiff, Nat.reduceAdd, Nat.reduceLeDiff] at f0_0); try (simp only [go_sem, Nat.reduceEqDiff, Nat.reduceAdd, Nat.reduceLeDiff] at f0_1); try (simp only [go_sem, Nat.reduceEqDiff, Nat.reduceAdd, Nat.reduceLeDiff] at f0_7); try (simp only [go_sem, Nat.reduceEqDiff, Nat.reduceAdd, Nat.reduceLeDiff] at f0_8)
    have hx := List.getElem?_eq_getElem hi
    have hy := strs_at hx
    have hni := nthS_eq hi
    have e1 : (0 : Int) ≤ (i : Int) ∧ (i : Int) < (l.length : Int) := by omega
    have hwd := hp _ (List.getElem_mem hi)
    refine w_block ?_
    (repeat' first
    | refine w_seq ?_ | refine w_rg ?_ | refine wo_nil ?_ | refine g_skU ?_ | refine g_skT ?_ | refine g_skF ?_
    | ((first | apply s_plain | apply s_void | apply s_guard | apply g_goT | apply g_goF); · simp only [go_sem, Nat.reduceEqDiff, Nat.reduceAdd, Nat.reduceLeDiff, f0_0, f0_1, f0_7, f0_8, hti, e1, hll, Int.toNat_natCast, hy, hwd]; (first | done | rfl))
    | ((first | apply g_T | apply g_F | apply g_gT | apply g_gF); · intro q1_; (first | intro q2_ | have q2_ := q1_); simp only [go_sem, Nat.reduceEqDiff, Nat.reduceAdd, Nat.reduceLeDiff, f0_0, f0_1, f0_7, f0_8, hti, e1, hll, Int.toNat_natCast, hy, hwd, q1_, q2_]; (first | done | rfl))
    | fail
    )
    have hx' : l[i - 1]? = some (nthS l (i - 1)) := by
      have : i - 1 < l.length := by omega
      unfold nthS; rw [List.getElem?_eq_getElem this]; rfl
    have hy' := strs_at hx'
    refine g_gT (v := .fp (strs l) (i - 1) 0) (by
      intro hb hc
      have hpos : 0 < i := by simpa using hc
      have e2 : IntKind.i64.wrap ((i : Int) - 1) = ((i - 1 : Nat) : Int) := by rw [IntKind.wrap_i64]; omega
      have e3 : (0 : Int) ≤ ((i - 1 : Nat) : Int) ∧ ((i - 1 : Nat) : Int) < (l.length : Int) := by omega
      simp only [go_sem, Nat.reduceEqDiff, Nat.reduceAdd, Nat.reduceLeDiff, f0_0, f0_1, f0_7, f0_8, hb, hc, e2, e3, hll, Int.toNat_natCast, hy']) ?_
    (repeat' first
    | refine w_seq ?_ | refine w_rg ?_ | refine wo_nil ?_ | refine g_skU ?_ | refine g_skT ?_ | refine g_skF ?_
    | ((first | apply s_plain | apply s_void | apply s_guard | apply g_goT | apply g_goF); · simp only [go_sem, Nat.reduceEqDiff, Nat.reduceAdd, Nat.reduceLeDiff, f0_0, f0_1, f0_7, f0_8, hy']; (first | done | rfl))
    | ((first | apply g_T | apply g_F | apply g_gT | apply g_gF); · intro q1_; (first | intro q2_ | have q2_ := q1_); simp only [go_sem, Nat.reduceEqDiff, Nat.reduceAdd, Nat.reduceLeDiff, f0_0, f0_1, f0_7, f0_8, hy', q1_, q2_]; (first | done | rfl))
    | fail
    )
    have hbad : badW ok l i = (!ok l[i] || (decide ((i : Int) > 0) && !Op.bytesLess (nthS l (i - 1)).toList l[i].toList)) := by unfold badW lessB; rw [hni]
    cases hpi : badW ok l i with
    | true =>
      refine w_condT (by simp only [go_sem, Nat.reduceEqDiff, Nat.reduceAdd, Nat.reduceLeDiff]; rw [hbad] at hpi; exact congrArg (fun b => PV.sc (.bool b)) hpi) ?_
      (repeat' first
    | refine w_seq ?_ | refine w_rg ?_ | refine wo_nil ?_ | refine g_skU ?_ | refine g_skT ?_ | refine g_skF ?_
    | ((first | apply s_plain | apply s_void | apply s_guard | apply g_goT | apply g_goF); · simp only [go_sem, Nat.reduceEqDiff, Nat.reduceAdd, Nat.reduceLeDiff]; (first | done | rfl))
    | ((first | apply g_T | apply g_F | apply g_gT | apply g_gF); · intro q1_; (first | intro q2_ | have q2_ := q1_); simp only [go_sem, Nat.reduceEqDiff, Nat.reduceAdd, Nat.reduceLeDiff, q1_, q2_]; (first | done | rfl))
    | (apply w_condX; · simp only [go_sem, Nat.reduceEqDiff, Nat.reduceAdd, Nat.reduceLeDiff]; (first | done | rfl)); (first | refine wcd_T ?_ | refine wcd_F ?_)
    | refine w_skip ?_ | refine w_exit ?_ | refine w_ret ?_
    | fail
    )
      exact ⟨by first | exact .inr rfl | exact .inr trivial | exact .inl rfl, by simp only [go_sem, Nat.reduceEqDiff, Nat.reduceAdd, Nat.reduceLeDiff, retOf, resOf, rise_hit hi hpi, Bool.false_and]; first | done | rfl⟩
    | false =>
      refine w_condF (by simp only [go_sem, Nat.reduceEqDiff, Nat.reduceAdd, Nat.reduceLeDiff]; rw [hbad] at hpi; exact congrArg (fun b => PV.sc (.bool b)) hpi) ?_
      (repeat' first
    | refine w_seq ?_ | refine w_rg ?_ | refine wo_nil ?_ | refine g_skU ?_ | refine g_skT ?_ | refine g_skF ?_
    | ((first | apply s_plain | apply s_void | apply s_guard | apply g_goT | apply g_goF); · simp only [go_sem, Nat.reduceEqDiff, Nat.reduceAdd, Nat.reduceLeDiff]; (first | done | rfl))
    | ((first | apply g_T | apply g_F | apply g_gT | apply g_gF); · intro q1_; (first | intro q2_ | have q2_ := q1_); simp only [go_sem, Nat.reduceEqDiff, Nat.reduceAdd, Nat.reduceLeDiff, q1_, q2_]; (first | done | rfl))
    | (apply w_condX; · simp only [go_sem, Nat.reduceEqDiff, Nat.reduceAdd, Nat.reduceLeDiff]; (first | done | rfl)); (first | refine wcd_T ?_ | refine wcd_F ?_)
    | refine w_skip ?_ | refine w_exit ?_ | refine w_ret ?_
    | fail
    )
      intro j hj
      by_cases hji : j = i
      · rw [hji]; exact hpi
      · exact h3 j (by omega)
  · rintro fr2 σ2 h3 hfr
    have e0_0 := hfr 0 rfl; try (simp only [go_sem, Nat.reduceEqDiff, Nat.reduceAdd, Nat.reduceLeDiff] at e0_0)
    try simp only [if_true]
    (repeat' first
    | refine w_seq ?_ | refine w_rg ?_ | refine wo_nil ?_ | refine g_skU ?_ | refine g_skT ?_ | refine g_skF ?_
    | ((first | apply s_plain | apply s_void | apply s_guard | apply g_goT | apply g_goF); · simp only [go_sem, Nat.reduceEqDiff, Nat.reduceAdd, Nat.reduceLeDiff, e0_0, hll]; (first | done | rfl))
    | ((first | apply g_T | apply g_F | apply g_gT | apply g_gF); · intro q1_; (first | intro q2_ | have q2_ := q1_); simp only [go_sem, Nat.reduceEqDiff, Nat.reduceAdd, Nat.reduceLeDiff, e0_0, hll, q1_, q2_]; (first | done | rfl))
    | (apply w_condX; · simp only [go_sem, Nat.reduceEqDiff, Nat.reduceAdd, Nat.reduceLeDiff, e0_0, hll]; (first | done | rfl)); (first | refine wcd_T ?_ | refine wcd_F ?_)
    | refine w_skip ?_ | refine w_exit ?_ | refine w_ret ?_
    | fail
    )
    exact ⟨by first | exact .inr rfl | exact .inr trivial | exact .inl rfl, by simp only [go_sem, Nat.reduceEqDiff, Nat.reduceAdd, Nat.reduceLeDiff, retOf, resOf, rise_all (ok := ok) h3]; first | done | rfl⟩
theorem a313 (H : Mm4 env) (B : Has lkb env) {m : Mt} (hm : m.Held) : AV env 313 [mt m] = some (.sc (.bool (!rightM m))) := by
  have h := a306 H hm
  refine AV_wp (B (313, d313) (by simp [lkb])) rfl ?_
  unfold mt at h ⊢
  (repeat' first
    | refine w_seq ?_ | refine w_rg ?_ | refine wo_nil ?_ | refine g_skU ?_ | refine g_skT ?_ | refine g_skF ?_
    | ((first | apply s_plain | apply s_void | apply s_guard | apply g_goT | apply g_goF); · simp only [go_sem, Nat.reduceEqDiff, Nat.reduceAdd, Nat.reduceLeDiff, h]; (first | done | rfl))
    | ((first | apply g_T | apply g_F | apply g_gT | apply g_gF); · intro q1_; (first | intro q2_ | have q2_ := q1_); simp only [go_sem, Nat.reduceEqDiff, Nat.reduceAdd, Nat.reduceLeDiff, h, q1_, q2_]; (first | done | rfl))
    | (apply w_condX; · simp only [go_sem, Nat.reduceEqDiff, Nat.reduceAdd, Nat.reduceLeDiff, h]; (first | done | rfl)); (first | refine wcd_T ?_ | refine wcd_F ?_)
    | refine w_skip ?_ | refine w_exit ?_ | refine w_ret ?_
    | fail
    )
  exact ⟨.inr rfl, by simp only [go_sem, Nat.reduceEqDiff, Nat.reduceAdd, Nat.reduceLeDiff, retOf, resOf]⟩
theorem a318 (B : Has lkb env) {l : List Rt} {k : Nat} {b : List PV} (ok : Rt → Bool) (hn : l.length ≤ 9223372036854775807) (hz : ∀ σ, b.mapM (fz σ 11) = some b) (hz' : ∀ σ, b.mapM (fz σ 12) = some b)
    (hp : ∀ m ∈ l, AV env k (rt m :: b) = some (.sc (.bool (!ok m)))) : AV env 318 [.sl (rts l), .fn k [] b] = some (.sc (.bool (!l.all ok))) := by
  have hll := rts_len l
  have h326 : AV env 326 [.sl (rts l), .fn k [] b] = some (.sc (.int .i64 (found (fun i => match l[i]? with | some m => !ok m | none => false) l.length))) := by
    rw [← hll]
    refine idxS (es := 9) (k := k) (a := []) (b := b) (p := fun i => match l[i]? with | some m => !ok m | none => false) (by rw [← dIF_9]; exact B (326, d326) (by simp [lkb])) (by rw [hll]; exact hn) (fun i e h => ?_) (fun i e h σ => ?_) (fun i e h => ?_)
    · rw [rts_map, List.getElem?_map] at h
      obtain ⟨m, _, rfl⟩ := Option.map_eq_some_iff.1 h
      exact ⟨_, rt_eq m, rfl⟩
    · rw [rts_map, List.getElem?_map] at h
      obtain ⟨m, _, rfl⟩ := Option.map_eq_some_iff.1 h
      rw [List.nil_append, List.singleton_append, mapM_cons', hz' σ, rt_eq m]
      rfl
    · rw [rts_map, List.getElem?_map] at h
      obtain ⟨m, hm, rfl⟩ := Option.map_eq_some_iff.1 h
      simp only [hm]
      exact hp m (List.mem_of_getElem? hm)
  have hf := found_not l ok (fun i => match l[i]? with | some m => !ok m | none => false) (fun i x hx => by simp only [hx])
  refine AV_wp (B (318, d318) (by simp [lkb])) rfl ?_
  (repeat' first
    | refine w_seq ?_ | refine w_rg ?_ | refine wo_nil ?_ | refine g_skU ?_ | refine g_skT ?_ | refine g_skF ?_
    | ((first | apply s_plain | apply s_void | apply s_guard | apply g_goT | apply g_goF); · simp only [go_sem, Nat.reduceEqDiff, Nat.reduceAdd, Nat.reduceLeDiff, h326, hz]; (first | done | rfl))
    | ((first | apply g_T | apply g_F | apply g_gT | apply g_gF); · intro q1_; (first | intro q2_ | have q2_ := q1_); simp only [go_sem, Nat.reduceEqDiff, Nat.reduceAdd, Nat.reduceLeDiff, h326, hz, q1_, q2_]; (first | done | rfl))
    | (apply w_condX; · simp only [go_sem, Nat.reduceEqDiff, Nat.reduceAdd, Nat.reduceLeDiff, h326, hz]; (first | done | rfl)); (first | refine wcd_T ?_ | refine wcd_F ?_)
    | refine w_skip ?_ | refine w_exit ?_ | refine w_ret ?_
    | fail
    )
  exact ⟨.inr rfl, by simp only [go_sem, Nat.reduceEqDiff, Nat.reduceAdd, Nat.reduceLeDiff, retOf, resOf, hf]⟩
theorem a319 (B : Has lkb env) {d : Nat} (hd : d < 1000) {r : Rt} (h : AV env 304 [rt r, .sc (.int .i64 (d : Int))] = some (.sc (.bool (mayR d r)))) : AV env 319 [rt r, .fp [.sc (.int .i64 ((d + 1 : Nat) : Int))] 0 0] = some (.sc (.bool (!mayR d r))) := by
  have e2 : IntKind.i64.wrap (((d + 1 : Nat) : Int) - 1) = (d : Int) := by rw [IntKind.wrap_i64]; omega
  refine AV_wp (B (319, d319) (by simp [lkb])) rfl ?_
  rw [rt_eq] at h ⊢
  unfold rhd at h ⊢
  (repeat' first
    | refine w_seq ?_ | refine w_rg ?_ | refine wo_nil ?_ | refine g_skU ?_ | refine g_skT ?_ | refine g_skF ?_
    | ((first | apply s_plain | apply s_void | apply s_guard | apply g_goT | apply g_goF); · simp only [go_sem, Nat.reduceEqDiff, Nat.reduceAdd, Nat.reduceLeDiff, e2, h]; (first | done | rfl))
    | ((first | apply g_T | apply g_F | apply g_gT | apply g_gF); · intro q1_; (first | intro q2_ | have q2_ := q1_); simp only [go_sem, Nat.reduceEqDiff, Nat.reduceAdd, Nat.reduceLeDiff, e2, h, q1_, q2_]; (first | done | rfl))
    | (apply w_condX; · simp only [go_sem, Nat.reduceEqDiff, Nat.reduceAdd, Nat.reduceLeDiff, e2, h]; (first | done | rfl)); (first | refine wcd_T ?_ | refine wcd_F ?_)
    | refine w_skip ?_ | refine w_exit ?_ | refine w_ret ?_
    | fail
    )
  exact ⟨.inr rfl, by simp only [go_sem, Nat.reduceEqDiff, Nat.reduceAdd, Nat.reduceLeDiff, retOf, resOf]⟩
theorem a304 (H : Mm4 env) (B : Has lkb env) : ∀ (d : Nat), d < 1000 → ∀ r : Rt, r.Held → AV env 304 [rt r, .sc (.int .i64 (d : Int))] = some (.sc (.bool (mayR d r)))
  | 0, _, r, hr => by
    refine AV_wp (B (304, d304) (by simp [lkb])) rfl ?_
    rw [rt_eq]
    unfold rhd
    have e0 : (((0 : Nat) : Int) == 0) = true := rfl
    (repeat' first
    | refine w_seq ?_ | refine w_rg ?_ | refine wo_nil ?_ | refine g_skU ?_ | refine g_skT ?_ | refine g_skF ?_
    | ((first | apply s_plain | apply s_void | apply s_guard | apply g_goT | apply g_goF); · simp only [go_sem, Nat.reduceEqDiff, Nat.reduceAdd, Nat.reduceLeDiff, e0]; (first | done | rfl))
    | ((first | apply g_T | apply g_F | apply g_gT | apply g_gF); · intro q1_; (first | intro q2_ | have q2_ := q1_); simp only [go_sem, Nat.reduceEqDiff, Nat.reduceAdd, Nat.reduceLeDiff, e0, q1_, q2_]; (first | done | rfl))
    | (apply w_condX; · simp only [go_sem, Nat.reduceEqDiff, Nat.reduceAdd, Nat.reduceLeDiff, e0]; (first | done | rfl)); (first | refine wcd_T ?_ | refine wcd_F ?_)
    | refine w_skip ?_ | refine w_exit ?_ | refine w_ret ?_
    | fail
    )
    exact ⟨by first | exact .inr rfl | exact .inr trivial | exact .inl rfl, by simp only [go_sem, Nat.reduceEqDiff, Nat.reduceAdd, Nat.reduceLeDiff, retOf, resOf, mayR]; first | done | rfl⟩
  | d + 1, hd, r, hr => by
    have ih := fun k hk => a319 B (d := d) (by omega) (a304 H B d (by omega) k hk)
    obtain ⟨h, ks, hh, hkl, hkh⟩ := hr
    have h318 := a318 B (l := ks) (k := 319) (b := [.fp [.sc (.int .i64 ((d + 1 : Nat) : Int))] 0 0]) (mayR d) hkl (fun _ => rfl) (fun _ => rfl) (fun k hk => ih k (hkh k hk))
    have h307 := a307 H (l := h.ms) (k := 313) (b := []) rightM hh.ms (fun _ => rfl) (fun _ => rfl) (fun m hm => a313 H B (hh.mss m hm))
    have h314 := a314 H B hh.recv
    have h315a := a315 B (l := h.bys) (k := 316) nameB hh.bys (fun s hs => a316 H B (hh.byss s hs))
    have h315b := a315 B (l := h.mute) (k := 314) wordB hh.mute (fun s hs => a314 H B (hh.mutes s hs))
    have h317a := a317 B (l := [h.wait]) (by simp) 0
    have h317b := a317 B (l := [h.every, h.rep]) (by simp) 1
    have hml := mts_len h.ms
    have hkl' := rts_len ks
    have hmay : mayR (d + 1) (.mk h ks) = (headR h ks.length && ks.all (mayR d)) := rfl
    have e0 : (((d + 1 : Nat) : Int) == 0) = false := by rw [beq_eq_false_iff_ne]; omega
    simp only [intsR, List.map_cons, List.map_nil] at h317a h317b
    refine AV_wp (B (304, d304) (by simp [lkb])) rfl ?_
    rw [rt]
    unfold rhd
    (repeat' first
    | refine w_seq ?_ | refine w_rg ?_ | refine wo_nil ?_ | refine g_skU ?_ | refine g_skT ?_ | refine g_skF ?_
    | ((first | apply s_plain | apply s_void | apply s_guard | apply g_goT | apply g_goF); · simp only [go_sem, Nat.reduceEqDiff, Nat.reduceAdd, Nat.reduceLeDiff, e0, h314, h307, hml, hkl']; (first | done | rfl))
    | ((first | apply g_T | apply g_F | apply g_gT | apply g_gF); · intro q1_; (first | intro q2_ | have q2_ := q1_); simp only [go_sem, Nat.reduceEqDiff, Nat.reduceAdd, Nat.reduceLeDiff, e0, h314, h307, hml, hkl', q1_, q2_]; (first | done | rfl))
    | fail
    )
    refine w_condB (by simp only [go_sem, Nat.reduceEqDiff, Nat.reduceAdd, Nat.reduceLeDiff]; first | done | rfl) (fun hc => ?_) (fun hc => ?_)
    · have hf : mayR (d + 1) (.mk h ks) = false := by rw [hmay]; unfold headR; rw [hc]; rfl
      (repeat' first
    | refine w_seq ?_ | refine w_rg ?_ | refine wo_nil ?_ | refine g_skU ?_ | refine g_skT ?_ | refine g_skF ?_
    | ((first | apply s_plain | apply s_void | apply s_guard | apply g_goT | apply g_goF); · simp only [go_sem, Nat.reduceEqDiff, Nat.reduceAdd, Nat.reduceLeDiff]; (first | done | rfl))
    | ((first | apply g_T | apply g_F | apply g_gT | apply g_gF); · intro q1_; (first | intro q2_ | have q2_ := q1_); simp only [go_sem, Nat.reduceEqDiff, Nat.reduceAdd, Nat.reduceLeDiff, q1_, q2_]; (first | done | rfl))
    | (apply w_condX; · simp only [go_sem, Nat.reduceEqDiff, Nat.reduceAdd, Nat.reduceLeDiff]; (first | done | rfl)); (first | refine wcd_T ?_ | refine wcd_F ?_)
    | refine w_skip ?_ | refine w_exit ?_ | refine w_ret ?_
    | fail
    )
      exact ⟨by first | exact .inr rfl | exact .inr trivial | exact .inl rfl, by simp only [go_sem, Nat.reduceEqDiff, Nat.reduceAdd, Nat.reduceLeDiff, retOf, resOf, hf]; first | done | rfl⟩
    · (repeat' first
    | refine w_seq ?_ | refine w_rg ?_ | refine wo_nil ?_ | refine g_skU ?_ | refine g_skT ?_ | refine g_skF ?_
    | ((first | apply s_plain | apply s_void | apply s_guard | apply g_goT | apply g_goF); · simp only [go_sem, Nat.reduceEqDiff, Nat.reduceAdd, Nat.reduceLeDiff]; (first | done | rfl))
    | ((first | apply g_T | apply g_F | apply g_gT | apply g_gF); · intro q1_; (first | intro q2_ | have q2_ := q1_); simp only [go_sem, Nat.reduceEqDiff, Nat.reduceAdd, Nat.reduceLeDiff, q1_, q2_]; (first | done | rfl))
    | (apply w_condX; · simp only [go_sem, Nat.reduceEqDiff, Nat.reduceAdd, Nat.reduceLeDiff]; (first | done | rfl)); (first | refine wcd_T ?_ | refine wcd_F ?_)
    | refine w_skip ?_ | refine w_exit ?_ | refine w_ret ?_
    | fail
    )
      try simp only []
      have hhd : headR h ks.length = ((riseB nameB h.bys && decide ((h.bys.length : Int) ≤ 8)) && (riseB wordB h.mute && decide ((h.mute.length : Int) ≤ 8)) && ([h.wait].all fun n => inT n 0) && ([h.every, h.rep].all fun n => inT n 1)) := by
        unfold headR
        rw [hc]
        rfl
      rw [hhd] at hmay
      cases h1 : (riseB nameB h.bys && decide ((h.bys.length : Int) ≤ 8)) with
      | false =>
        rw [h1] at h315a hmay
        have hf : mayR (d + 1) (.mk h ks) = false := hmay
        (repeat' first
    | refine w_seq ?_ | refine w_rg ?_ | refine wo_nil ?_ | refine g_skU ?_ | refine g_skT ?_ | refine g_skF ?_
    | ((first | apply s_plain | apply s_void | apply s_guard | apply g_goT | apply g_goF); · simp only [go_sem, Nat.reduceEqDiff, Nat.reduceAdd, Nat.reduceLeDiff, h315a]; (first | done | rfl))
    | ((first | apply g_T | apply g_F | apply g_gT | apply g_gF); · intro q1_; (first | intro q2_ | have q2_ := q1_); simp only [go_sem, Nat.reduceEqDiff, Nat.reduceAdd, Nat.reduceLeDiff, h315a, q1_, q2_]; (first | done | rfl))
    | (apply w_condX; · simp only [go_sem, Nat.reduceEqDiff, Nat.reduceAdd, Nat.reduceLeDiff, h315a]; (first | done | rfl)); (first | refine wcd_T ?_ | refine wcd_F ?_)
    | refine w_skip ?_ | refine w_exit ?_ | refine w_ret ?_
    | fail
    )
        exact ⟨by first | exact .inr rfl | exact .inr trivial | exact .inl rfl, by simp only [go_sem, Nat.reduceEqDiff, Nat.reduceAdd, Nat.reduceLeDiff, retOf, resOf, hf]; first | done | rfl⟩
      | true =>
        rw [h1] at h315a hmay
        cases h2 : (riseB wordB h.mute && decide ((h.mute.length : Int) ≤ 8)) with
        | false =>
          rw [h2] at h315b hmay
          have hf : mayR (d + 1) (.mk h ks) = false := hmay
          (repeat' first
    | refine w_seq ?_ | refine w_rg ?_ | refine wo_nil ?_ | refine g_skU ?_ | refine g_skT ?_ | refine g_skF ?_
    | ((first | apply s_plain | apply s_void | apply s_guard | apply g_goT | apply g_goF); · simp only [go_sem, Nat.reduceEqDiff, Nat.reduceAdd, Nat.reduceLeDiff, h315a, h315b]; (first | done | rfl))
    | ((first | apply g_T | apply g_F | apply g_gT | apply g_gF); · intro q1_; (first | intro q2_ | have q2_ := q1_); simp only [go_sem, Nat.reduceEqDiff, Nat.reduceAdd, Nat.reduceLeDiff, h315a, h315b, q1_, q2_]; (first | done | rfl))
    | (apply w_condX; · simp only [go_sem, Nat.reduceEqDiff, Nat.reduceAdd, Nat.reduceLeDiff, h315a, h315b]; (first | done | rfl)); (first | refine wcd_T ?_ | refine wcd_F ?_)
    | refine w_skip ?_ | refine w_exit ?_ | refine w_ret ?_
    | fail
    )
          exact ⟨by first | exact .inr rfl | exact .inr trivial | exact .inl rfl, by simp only [go_sem, Nat.reduceEqDiff, Nat.reduceAdd, Nat.reduceLeDiff, retOf, resOf, hf]; first | done | rfl⟩
        | true =>
          rw [h2] at h315b hmay
          cases h3 : ([h.wait].all fun n => inT n 0) with
          | false =>
            rw [h3] at h317a hmay
            have hf : mayR (d + 1) (.mk h ks) = false := hmay
            (repeat' first
    | refine w_seq ?_ | refine w_rg ?_ | refine wo_nil ?_ | refine g_skU ?_ | refine g_skT ?_ | refine g_skF ?_
    | ((first | apply s_plain | apply s_void | apply s_guard | apply g_goT | apply g_goF); · simp only [go_sem, Nat.reduceEqDiff, Nat.reduceAdd, Nat.reduceLeDiff, h315a, h315b, h317a]; (first | done | rfl))
    | ((first | apply g_T | apply g_F | apply g_gT | apply g_gF); · intro q1_; (first | intro q2_ | have q2_ := q1_); simp only [go_sem, Nat.reduceEqDiff, Nat.reduceAdd, Nat.reduceLeDiff, h315a, h315b, h317a, q1_, q2_]; (first | done | rfl))
    | (apply w_condX; · simp only [go_sem, Nat.reduceEqDiff, Nat.reduceAdd, Nat.reduceLeDiff, h315a, h315b, h317a]; (first | done | rfl)); (first | refine wcd_T ?_ | refine wcd_F ?_)
    | refine w_skip ?_ | refine w_exit ?_ | refine w_ret ?_
    | fail
    )
            exact ⟨by first | exact .inr rfl | exact .inr trivial | exact .inl rfl, by simp only [go_sem, Nat.reduceEqDiff, Nat.reduceAdd, Nat.reduceLeDiff, retOf, resOf, hf]; first | done | rfl⟩
          | true =>
            rw [h3] at h317a hmay
            cases h4 : ([h.every, h.rep].all fun n => inT n 1) with
            | false =>
              rw [h4] at h317b hmay
              have hf : mayR (d + 1) (.mk h ks) = false := hmay
              (repeat' first
    | refine w_seq ?_ | refine w_rg ?_ | refine wo_nil ?_ | refine g_skU ?_ | refine g_skT ?_ | refine g_skF ?_
    | ((first | apply s_plain | apply s_void | apply s_guard | apply g_goT | apply g_goF); · simp only [go_sem, Nat.reduceEqDiff, Nat.reduceAdd, Nat.reduceLeDiff, h315a, h315b, h317a, h317b, List.set_cons_succ]; (first | done | rfl))
    | ((first | apply g_T | apply g_F | apply g_gT | apply g_gF); · intro q1_; (first | intro q2_ | have q2_ := q1_); simp only [go_sem, Nat.reduceEqDiff, Nat.reduceAdd, Nat.reduceLeDiff, h315a, h315b, h317a, h317b, List.set_cons_succ, q1_, q2_]; (first | done | rfl))
    | (apply w_condX; · simp only [go_sem, Nat.reduceEqDiff, Nat.reduceAdd, Nat.reduceLeDiff, h315a, h315b, h317a, h317b, List.set_cons_succ]; (first | done | rfl)); (first | refine wcd_T ?_ | refine wcd_F ?_)
    | refine w_skip ?_ | refine w_exit ?_ | refine w_ret ?_
    | fail
    )
              exact ⟨by first | exact .inr rfl | exact .inr trivial | exact .inl rfl, by simp only [go_sem, Nat.reduceEqDiff, Nat.reduceAdd, Nat.reduceLeDiff, retOf, resOf, hf]; first | done | rfl⟩
            | true =>
              rw [h4] at h317b hmay
              have hf : mayR (d + 1) (.mk h ks) = ks.all (mayR d) := hmay
              (repeat' first
    | refine w_seq ?_ | refine w_rg ?_ | refine wo_nil ?_ | refine g_skU ?_ | refine g_skT ?_ | refine g_skF ?_
    | ((first | apply s_plain | apply s_void | apply s_guard | apply g_goT | apply g_goF); · simp only [go_sem, Nat.reduceEqDiff, Nat.reduceAdd, Nat.reduceLeDiff, h315a, h315b, h317a, h317b, h318, List.set_cons_succ]; (first | done | rfl))
    | ((first | apply g_T | apply g_F | apply g_gT | apply g_gF); · intro q1_; (first | intro q2_ | have q2_ := q1_); simp only [go_sem, Nat.reduceEqDiff, Nat.reduceAdd, Nat.reduceLeDiff, h315a, h315b, h317a, h317b, h318, List.set_cons_succ, q1_, q2_]; (first | done | rfl))
    | (apply w_condX; · simp only [go_sem, Nat.reduceEqDiff, Nat.reduceAdd, Nat.reduceLeDiff, h315a, h315b, h317a, h317b, h318, List.set_cons_succ]; (first | done | rfl)); (first | refine wcd_T ?_ | refine wcd_F ?_)
    | refine w_skip ?_ | refine w_exit ?_ | refine w_ret ?_
    | fail
    )
              exact ⟨by first | exact .inr rfl | exact .inr trivial | exact .inl rfl, by simp only [go_sem, Nat.reduceEqDiff, Nat.reduceAdd, Nat.reduceLeDiff, retOf, resOf, hf, Bool.not_not]; first | done | rfl⟩
theorem a298 (H : Mm4 env) (B : Has lkb env) {r : Rt} (hr : r.Held) : AV env 298 [rt r] = some (.sc (.bool (mayR 4 r))) := by
  have h : AV env 304 [rt r, .sc (.int .i64 4)] = some (.sc (.bool (mayR 4 r))) := a304 H B 4 (by omega) r hr
  refine AV_wp (B (298, d298) (by simp [lkb])) rfl ?_
  rw [rt_eq] at h ⊢
  unfold rhd at h ⊢
  (repeat' first
    | refine w_seq ?_ | refine w_rg ?_ | refine wo_nil ?_ | refine g_skU ?_ | refine g_skT ?_ | refine g_skF ?_
    | ((first | apply s_plain | apply s_void | apply s_guard | apply g_goT | apply g_goF); · simp only [go_sem, Nat.reduceEqDiff, Nat.reduceAdd, Nat.reduceLeDiff, h]; (first | done | rfl))
    | ((first | apply g_T | apply g_F | apply g_gT | apply g_gF); · intro q1_; (first | intro q2_ | have q2_ := q1_); simp only [go_sem, Nat.reduceEqDiff, Nat.reduceAdd, Nat.reduceLeDiff, h, q1_, q2_]; (first | done | rfl))
    | (apply w_condX; · simp only [go_sem, Nat.reduceEqDiff, Nat.reduceAdd, Nat.reduceLeDiff, h]; (first | done | rfl)); (first | refine wcd_T ?_ | refine wcd_F ?_)
    | refine w_skip ?_ | refine w_exit ?_ | refine w_ret ?_
    | fail
    )
  exact ⟨by first | exact .inr rfl | exact .inr trivial | exact .inl rfl, by simp only [go_sem, Nat.reduceEqDiff, Nat.reduceAdd, Nat.reduceLeDiff, retOf, resOf]; first | done | rfl⟩
end

end
section
section
variable {env : Nat → Option Def} {fr : Fr} {σ σ' σ'' : St} {K : Fr → St → Prop} {Q : X → Fr → St → Prop} {p : PV} {P : Nat → Bool}
def SubP (P : Nat → Bool) (σ σ' : St) : Prop := ∀ o g x, P o = true → σ.m o g = some x → ∃ x', σ'.m o g = some x' ∧ x'.es = x.es ∧ x'.xs = x.xs
theorem SubP.refl (σ : St) : SubP P σ σ := fun _ _ x _ h => ⟨x, h, rfl, rfl⟩
theorem SubP.trans (h : SubP P σ σ') (h' : SubP P σ' σ'') : SubP P σ σ'' := fun o g x ho hx =>
  let ⟨y, h1, h2, h3⟩ := h o g x ho hx
  let ⟨z, h4, h5, h6⟩ := h' o g y ho h1
  ⟨z, h4, h5.trans h2, h6.trans h3⟩
theorem SubP.put (h : SubP P σ σ') {o g : Nat} (ho : P o = false) (y : Option Obj) : SubP P σ (σ'.put o g y) := fun o' g' x ho' hx => by
  obtain ⟨z, h1, h2⟩ := h o' g' x ho' hx
  refine ⟨z, ?_, h2⟩
  simp only [put_m]
  rw [if_neg (fun h => by rw [h.1, ho] at ho'; cases ho')]
  exact h1
theorem SubP.new (h : SubP P σ σ') (hF : Fresh σ') (s : Nat) (y : Obj) : SubP P σ (σ'.new s y) := fun o' g' x ho' hx => by
  obtain ⟨z, h1, h2⟩ := h o' g' x ho' hx
  refine ⟨z, ?_, h2⟩
  simp only [new_m]
  rw [if_neg]
  · exact h1
  · rintro ⟨rfl, rfl⟩
    rw [hF.none] at h1; cases h1
theorem SubP.same (h : SubP P σ σ') {o g : Nat} {x y : Obj} (hx : σ'.m o g = some x) (h1 : y.es = x.es) (h2 : y.xs = x.xs) : SubP P σ (σ'.put o g (some y)) := fun o' g' z ho' hz => by
  obtain ⟨u, q1, q2, q3⟩ := h o' g' z ho' hz
  simp only [put_m]
  by_cases hq : o' = o ∧ g' = g
  · obtain ⟨rfl, rfl⟩ := hq
    rw [hx] at q1
    simp only [Option.some.injEq] at q1
    subst q1
    exact ⟨y, by simp, h1.trans q2, h2.trans q3⟩
  · exact ⟨u, by rw [if_neg hq]; exact q1, q2, q3⟩
theorem SubP.of (h : ∀ o g, P o = true → σ'.m o g = σ.m o g) : SubP P σ σ' := fun o g x ho hx => ⟨x, by rw [h o g ho]; exact hx, rfl, rfl⟩
theorem gat_app2 {E : Ev} {d es by_ : Nat} {s' x : PA} {xs : List PV} {e : PV} (hg : Gat σ [d] es false (pa fr s') xs) (hF : Fresh σ) (hsrc : srcOf σ es (pa fr x) = some [e]) (hok : okc e = true) (hl : (cellsOf e).length = es) (hb : (xs.length + 1) * by_ ≤ 70368744177664) :
    ∃ p σ', evO E d fr σ (.app es by_ false s' x) = some (p, σ') ∧ Gat σ' [d] es false p (xs ++ [e]) ∧ Fresh σ' ∧ (∀ P, SubP P σ σ') ∧ (∀ o g, o ≠ d → σ'.m o g = σ.m o g) ∧ (∀ o, o ≠ d → σ'.c o = σ.c o) ∧ σ.c d ≤ σ'.c d := by
  have hall : ([e].all fun y => okc y && (cellsOf y).length == es) = true := by simp [hok, hl]
  rcases hg with ⟨h1, rfl⟩ | ⟨o, g, wr, h0, h1, h2, h3, h4, h5⟩
  · refine ⟨.ob d (σ.c d) es 0 1, σ.new d ⟨es, [e], true, true⟩, ?_, .inr ⟨d, σ.c d, true, by simp, rfl, by simp [new_m], by simp [new_c], by simp, fun _ => rfl⟩, hF.new _ _, fun P => (SubP.refl σ).new hF _ _, fun o g ho => ?_, fun o ho => ?_, new_c_le _ _ _ _⟩
    · simp only [evO, hsrc, Option.bind_some, hall, if_true, h1]
      rw [if_pos (by simpa using hb)]
      rfl
    · simp only [new_m]; rw [if_neg (fun h => ho h.1)]
    · simp only [new_c]; rw [if_neg (fun h => ho h)]
  · simp only [List.mem_singleton] at h0
    subst h0
    refine ⟨.ob o (σ.c o) es 0 (xs.length + 1), (σ.put o g (some ⟨es, xs, false, false⟩)).new o ⟨es, xs ++ [e], true, false⟩, ?_, .inr ⟨o, σ.c o, false, by simp, by simp, by simp [new_m, put_c], by simp [new_c, put_c], by simp, fun h => by cases h⟩,
      (hF.put h2 _).new _ _, fun P => ((SubP.refl σ).same (y := ⟨es, xs, false, false⟩) h2 rfl rfl).new (hF.put h2 _) _ _, fun o' g' ho => ?_, fun o' ho => ?_, new_c_le (σ.put o g (some ⟨es, xs, false, false⟩)) o ⟨es, xs ++ [e], true, false⟩ o⟩
    · simp only [evO, hsrc, Option.bind_some, hall, if_true, h1, h2]
      simp
      simpa using hb
    · simp only [new_m, put_m]; rw [if_neg (fun h => ho h.1), if_neg (fun h => ho h.1)]
    · simp only [new_c, put_c]; rw [if_neg (fun h => ho h)]
theorem s_gat2 {d t es by_ : Nat} {x : PA} {xs : List PV} {e : PV} {ops : List POp} (hg : Gat σ [d] es false (fr t) xs) (hF : Fresh σ) (hsrc : srcOf σ es (pa fr x) = some [e]) (hok : okc e = true) (hl : (cellsOf e).length = es) (hb : (xs.length + 1) * by_ ≤ 70368744177664)
    (h2 : ∀ p σ', Gat σ' [d] es false p (xs ++ [e]) → Fresh σ' → (∀ P, SubP P σ σ') → (∀ o g, o ≠ d → σ'.m o g = σ.m o g) → (∀ o, o ≠ d → σ'.c o = σ.c o) → σ.c d ≤ σ'.c d → Wos env ops K (fr.set d p) σ') : Wos env (⟨some d, none, .app es by_ false (.t t) x⟩ :: ops) K fr σ := by
  obtain ⟨p, σ', h3, h4, h5, h6, h7, h8, h9⟩ := gat_app2 (E := EV env) (fr := fr) (s' := .t t) (x := x) hg hF hsrc hok hl hb
  exact s_plain h3 (h2 p σ' h4 h5 h6 h7 h8 h9)
structure Kp (P : Nat → Prop) (σ σ' : St) : Prop where
  f : Fresh σ'
  m : ∀ o g, P o → g < σ.c o → σ'.m o g = σ.m o g
  c : ∀ o, σ.c o ≤ σ'.c o
theorem Kp.refl {P : Nat → Prop} (hF : Fresh σ) : Kp P σ σ := ⟨hF, fun _ _ _ _ => rfl, fun _ => Nat.le_refl _⟩
theorem Kp.trans {P : Nat → Prop} (h : Kp P σ σ') (h' : Kp P σ' σ'') : Kp P σ σ'' :=
  ⟨h'.f, fun o g hp hg => by rw [h'.m o g hp (Nat.lt_of_lt_of_le hg (h.c o)), h.m o g hp hg], fun o => Nat.le_trans (h.c o) (h'.c o)⟩
theorem Kp.new {P : Nat → Prop} (h : Kp P σ σ') (o : Nat) (y : Obj) : Kp P σ (σ'.new o y) :=
  ⟨h.f.new _ _, fun o' g' hp hg => by
    simp only [new_m]; rw [if_neg (fun e => by obtain ⟨rfl, rfl⟩ := e; have := h.c o'; omega)]; exact h.m o' g' hp hg, fun o' => Nat.le_trans (h.c o') (new_c_le _ _ _ _)⟩
theorem Kp.put {P : Nat → Prop} (h : Kp P σ σ') {o g : Nat} {x : Obj} (hx : σ'.m o g = some x) (ho : ¬ P o ∨ σ.c o ≤ g) (y : Option Obj) : Kp P σ (σ'.put o g y) :=
  ⟨h.f.put hx y, fun o' g' hp hg => by
    simp only [put_m]; rw [if_neg (fun e => by obtain ⟨rfl, rfl⟩ := e; rcases ho with ho | ho; exact ho hp; omega)]; exact h.m o' g' hp hg, h.c⟩
theorem Kp.app {P : Nat → Prop} (h : Kp P σ σ') {d : Nat} (hF : Fresh σ'') (hm : ∀ o g, o ≠ d → σ''.m o g = σ'.m o g) (hc : ∀ o, o ≠ d → σ''.c o = σ'.c o) (hd : ¬ P d) (hcd : σ'.c d ≤ σ''.c d) : Kp P σ σ'' :=
  ⟨hF, fun o g hp hg => by rw [hm o g (fun e => hd (e ▸ hp))]; exact h.m o g hp hg, fun o => by
    by_cases e : o = d
    · rw [e]; exact Nat.le_trans (h.c d) hcd
    · rw [hc o e]; exact h.c o⟩
theorem Kp.mono {P P' : Nat → Prop} (h : Kp P σ σ') (hp : ∀ o, P' o → P o) : Kp P' σ σ' := ⟨h.f, fun o g h1 h2 => h.m o g (hp o h1) h2, h.c⟩
end

end
section
attribute [local go_sem ↓] e_mv e_pick e_bin e_eqs e_beq e_un e_cvi e_str e_s2b e_b2s e_box e_build e_bsl e_ld e_st e_nck e_mkf e_slcS e_slcL e_fa e_fld e_ia e_iaa e_ix e_ixa e_ext e_lenS e_lenL e_mnmx e_app e_appb e_bbx e_msl e_clr e_call e_callv e_icall e_slcA e_mkm e_mput e_mget e_mlen e_mdel pa_t pa_c pa_f slcSP_str hiOf_some hiOf_none loOf_some loOf_none set_eq set_ne
attribute [local go_sem] pv pv1 simple frOf_0 frOf_1 frOf_2 frOf_3 frOf_4 frOf_5 ne_eq not_false_eq_true if_true Bool.false_eq_true if_false pbin punary Option.map_some Option.bind_some pick_and pick_or opt_true Bool.true_and Bool.and_self Bool.and_true Bool.true_or Bool.false_or Bool.not_true Bool.not_false callE pcall_eq List.map_cons List.map_nil List.append_nil List.nil_append List.cons_append mapM_cons' mapM_nil' dep_eq fz_sc fz_sl fz_em fz_fn fz_fp fz_agg fz_tu fz_bx fz_ob Nat.lt_irrefl Nat.zero_lt_one Nat.lt_add_one flat clL cl Bool.or_true okc_sc okc_em okc_sl okc_ob okc_bx okc_fp okc_fn okc_agg okc_ifc cells_agg cells_sc cells_sl cells_em cells_ob cells_fn cells_bx cells_fp List.length_cons List.length_nil Nat.zero_add and_self true_and and_true new_m new_c put_m put_c nil_m nil_c nil_mm new_mm put_mm newM_m newM_c newM_mm putM_m putM_c putM_mm mkeyV_1 mkeyV_2 mapAt_eq deref List.getElem?_cons_zero List.getElem?_cons_succ List.drop_zero List.drop_succ_cons List.take_succ_cons List.take_zero Nat.le_refl false_and and_false decide_true decide_false lenP_em lenP_nil lenP_sl lenP_ob Int.ofNat_zero splice fillP fillE List.modify_zero_cons List.replicate_succ List.replicate_zero List.set_cons_zero List.drop_zero ba_data ba_size ba_toList ba_extract ba_append List.toList_toArray
def d303 : Def := (.code 5 [] (.seq (.rg false [⟨.some 5, .none, .box (.t 0)⟩]) (.seq (.rg false [⟨.some 7, .none, .mv (.c (.bool false))⟩]) (.seq (.seq (.rg false [⟨.some 12, .none, .fa 8 (.t 5)⟩, ⟨.some 13, .none, .ld .none (.t 12)⟩, ⟨.some 14, .none, .lenL (.t 13)⟩, ⟨.some 15, .none, .mv (.c (.int .i64 0))⟩]) (.block 0 (.loop (.seq (.rg false [⟨.some 16, .none, .bin .lss (.t 15) (.t 14)⟩]) (.seq (.cond (.t 16) .skip (.exit 0)) (.seq (.block 1 (.seq (.rg false [⟨.some 17, .none, .mv (.t 15)⟩, ⟨.some 18, .none, .ia 9 (.t 13) (.t 15)⟩, ⟨.some 19, .none, .ld (.some 9) (.t 18)⟩, ⟨.some 9, .none, .box (.c (.agg #[.string ⟨#[]⟩, .slice .none 0 0, .slice .none 0 0, .int .i64 0, .int .i64 0, .int .i64 0, .slice .none 0 0, .bool false, .slice .none 0 0]))⟩, ⟨.some 8, .none, .mv (.t 17)⟩, ⟨.none, .none, .st 9 (.t 9) (.t 19)⟩]) (.seq (.seq (.rg false [⟨.some 21, .none, .ld .none (.t 2)⟩, ⟨.some 22, .none, .fa 1 (.t 9)⟩, ⟨.some 23, .none, .ld .none (.t 22)⟩, ⟨.some 24, .none, .call 299 .pure [.t 21, .t 23]⟩, ⟨.some 20, .none, .mv (.t 24)⟩, ⟨.some 25, .none, .ext (.t 20) 0⟩, ⟨.some 26, .none, .ext (.t 20) 1⟩, ⟨.some 10, .none, .mv (.t 25)⟩, ⟨.some 11, .none, .mv (.t 26)⟩]) (.seq (.rg false [⟨.some 27, .none, .mv (.t 10)⟩, ⟨.some 28, .none, .un .not (.t 27)⟩]) (.cond (.t 28) (.exit 1) .skip))) (.seq (.rg false [⟨.some 7, .none, .mv (.c (.bool true))⟩]) (.seq (.rg true [⟨.some 29, .none, .ld .none (.t 3)⟩, ⟨.some 30, .none, .ld (.some 9) (.t 9)⟩, ⟨.some 31, .none, .mv (.t 1)⟩, ⟨.some 32, .none, .bin .add (.t 31) (.c (.string ⟨#[46]⟩))⟩, ⟨.some 33, .none, .mv (.t 8)⟩, ⟨.some 34, .none, .call 203 .strict [.t 33]⟩, ⟨.some 35, .none, .bin .add (.t 32) (.t 34)⟩, ⟨.some 36, .none, .callv (.t 29) .opn [.t 30, .t 35]⟩]) (.seq (.rg false [⟨.some 37, .none, .fa 7 (.t 9)⟩, ⟨.some 38, .none, .ld .none (.t 37)⟩, ⟨.some 39, .none, .un .not (.t 38)⟩]) (.cond (.t 39) (.exit 0) .skip))))))) (.rg false [⟨.some 40, .none, .bin .add (.t 15) (.c (.int .i64 1))⟩, ⟨.some 15, .none, .mv (.t 40)⟩]))))))) (.seq (.rg false [⟨.some 41, .none, .mv (.t 7)⟩, ⟨.some 42, .none, .un .not (.t 41)⟩]) (.cond (.t 42) (.seq (.rg false [⟨.some 43, .none, .fa 8 (.t 5)⟩, ⟨.none, .none, .st 1 (.t 43) (.c (.slice .none 0 0))⟩]) (.rg false [⟨.some 44, .none, .ld .none (.t 4)⟩, ⟨.some 45, .none, .mv (.t 1)⟩, ⟨.some 46, .none, .ld (.some 9) (.t 5)⟩, ⟨.some 47, .none, .build (.agg #[.string ⟨#[]⟩, .string ⟨#[]⟩, .slice .none 0 0, .slice .none 0 0, .int .i64 0, .int .i64 0, .int .i64 0, .slice .none 0 0, .bool false, .slice .none 0 0]) [(0, (1, .t 45)), (1, (9, .t 46))]⟩, ⟨.some 48, .none, .bsl 10 (.agg #[.string ⟨#[]⟩, .string ⟨#[]⟩, .slice .none 0 0, .slice .none 0 0, .int .i64 0, .int .i64 0, .int .i64 0, .slice .none 0 0, .bool false, .slice .none 0 0]) 1 [(0, .t 47)]⟩, ⟨.some 49, .none, .app 10 160 false (.t 44) (.t 48)⟩, ⟨.none, .none, .st 1 (.t 4) (.t 49)⟩])) .skip))))))
def d296 : Def := (.code 2 [.tmp 4, .tmp 5] (.seq (.rg false [⟨.some 2, .none, .box (.t 0)⟩, ⟨.some 3, .none, .box (.t 1)⟩, ⟨.some 4, .none, .mv (.c (.slice .none 0 0))⟩, ⟨.some 5, .none, .mv (.c (.int .i64 0))⟩]) (.seq (.seq (.rg false [⟨.some 8, .none, .ld (.some 9) (.t 2)⟩, ⟨.some 9, .none, .call 298 .pure [.t 8]⟩, ⟨.some 10, .none, .un .not (.t 9)⟩, ⟨.some 11, .none, .mv (.t 10)⟩, ⟨.some 12, .some (11, false), .ld .none (.t 3)⟩, ⟨.some 13, .some (11, false), .call 113 .pure [.t 12]⟩, ⟨.some 14, .some (11, false), .un .not (.t 13)⟩, ⟨.some 15, .none, .pick (.t 11) (.c (.bool true)) (.t 14)⟩]) (.cond (.t 15) (.seq (.rg false [⟨.some 4, .none, .mv (.c (.slice .none 0 0))⟩, ⟨.some 5, .none, .mv (.c (.int .i64 1))⟩]) .ret) .skip)) (.seq (.rg false [⟨.some 6, .none, .box (.c (.slice .none 0 0))⟩]) (.seq (.rg false [⟨.some 7, .none, .box (.c .nilFunc)⟩]) (.seq (.rg false [⟨.some 16, .none, .mkf 303 [] [.t 3, .t 7, .t 6]⟩, ⟨.none, .none, .st 1 (.t 7) (.t 16)⟩]) (.seq (.rg false [⟨.some 17, .none, .ld .none (.t 7)⟩, ⟨.some 18, .none, .ld (.some 9) (.t 2)⟩, ⟨.some 19, .none, .callv (.t 17) .opn [.t 18, .c (.string ⟨#[]⟩)]⟩]) (.seq (.rg false [⟨.some 20, .none, .ld .none (.t 6)⟩, ⟨.some 4, .none, .mv (.t 20)⟩, ⟨.some 5, .none, .mv (.c (.int .i64 0))⟩]) .ret))))))))
def lkc : List (Nat × Def) := [(303, d303), (296, d296)]
theorem findL_nil (l : List Lab) (p : ByteArray) (i : Nat) : findL l [] p i = [] := by rw [findL]
theorem findL_cons (l : List Lab) (k : Rt) (r : List Rt) (p : ByteArray) (i : Nat) : findL l (k :: r) p i = if holdsA l k.h.ms then findR l k (stepP p i) ++ (if k.h.on then findL l r p (i + 1) else []) else findL l r p (i + 1) := by rw [findL]
theorem findR_mk (l : List Lab) (h : Rh) (ks : List Rt) (p : ByteArray) : findR l (.mk h ks) p = if ks.any (fun k => holdsA l k.h.ms) then findL l ks p 0 else [(p, h)] := by rw [findR]
theorem findL_none (l : List Lab) : ∀ (ks : List Rt) (p : ByteArray) (i : Nat), ks.any (fun k => holdsA l k.h.ms) = false → findL l ks p i = []
  | [], p, i, _ => findL_nil l p i
  | k :: r, p, i, h => by
    rw [List.any_cons, Bool.or_eq_false_iff] at h
    rw [findL_cons, h.1]
    simp only [Bool.false_eq_true, if_false]
    exact findL_none l r p (i + 1) h.2
theorem cntL_take_le (ks : List Rt) (i : Nat) : cntL (ks.take i) ≤ cntL ks := by
  have := cntL_append (ks.take i) (ks.drop i)
  rw [List.take_append_drop] at this
  omega
theorem Rt.Held.hd {r : Rt} (h : r.Held) : r.h.Held := by
  obtain ⟨a, ks, h1, _, _⟩ := h
  exact h1
theorem mayR_ms {d : Nat} {r : Rt} (h : mayR d r = true) : r.h.ms.all rightM = true := by
  cases d with
  | zero => simp [mayR] at h
  | succ d =>
    have h2 : headR r.h r.ks.length = true := by
      have : mayR (d + 1) r = (headR r.h r.ks.length && r.ks.all (mayR d)) := rfl
      rw [this, Bool.and_eq_true] at h
      exact h.1
    unfold headR at h2
    simp only [Bool.and_eq_true, Bool.not_eq_true', Bool.or_eq_false_iff, Bool.not_eq_false'] at h2
    exact h2.1.1.1.1.1.2
theorem findR_len (l : List Lab) : ∀ (r : Rt) (p : ByteArray), (findR l r p).length ≤ cntR r := by
  refine Rt.induct fun h ks ih p => ?_
  rw [cntR_mk, findR]
  have : ∀ (ks : List Rt) (i : Nat), (∀ k ∈ ks, ∀ p, (findR l k p).length ≤ cntR k) → (findL l ks p i).length ≤ cntL ks := by
    intro ks
    induction ks with
    | nil => intro i _; rw [findL]; simp
    | cons k r ih2 =>
      intro i hi
      have h1 := hi k (by simp) (stepP p i)
      have h2 := ih2 (i + 1) fun x hx => hi x (by simp [hx])
      rw [findL, cntL]
      split
      · rw [List.length_append]
        split
        · omega
        · simp; omega
      · omega
  have := this ks 0 ih
  split
  · omega
  · simp
def tgV (q : ByteArray × Rh) : PV := .agg (.sc (.string q.1) :: cellsOf (rhd q.2 .em))
def tgs (l : List (ByteArray × Rh)) : List PV := l.map tgV
theorem tgs_len (l : List (ByteArray × Rh)) : (tgs l).length = l.length := by simp [tgs]
structure LeadP (l : List Lab) (xs : List (ByteArray × Rh)) (σ : St) : Prop where
  fr : Fresh σ
  l : σ.m 2000003 0 = some ⟨1, [.sl (labs l)], true, true⟩
  f : σ.m 2000007 0 = some ⟨1, [.fn 303 [] [.bx 2000003 0 1 0 0, .bx 2000007 0 1 0 0, .bx 2000006 0 1 0 0]], true, true⟩
  o : ∃ p, σ.m 2000006 0 = some ⟨1, [p], true, true⟩ ∧ Gat σ [49] 10 false p (tgs xs)
abbrev LeadK (o : Nat) : Prop := o ≠ 49 ∧ o ≠ 2000006
theorem itoa16 {i : Nat} (h : i < 16) : (itoaS (i : Int)).size ≤ 2 := by
  have : ∀ j ∈ List.range 16, (itoaS (j : Int)).size ≤ 2 := by decide +kernel
  exact this i (by simpa using h)
theorem stepP_size (p : ByteArray) {i : Nat} (h : i < 16) : (stepP p i).size ≤ p.size + 3 := by
  have := itoa16 h
  unfold stepP
  rw [ByteArray.size_append, ByteArray.size_append]
  have : (⟨#[46]⟩ : ByteArray).size = 1 := rfl
  omega
section
variable {env : Nat → Option Def} {fr : Fr} {σ σ' σ'' : St} {K : Fr → St → Prop} {Q : X → Fr → St → Prop} {p : PV} {bs : List UInt8}
theorem Gat.ok {os : List Nat} {es : Nat} {w : Bool} {p : PV} {xs : List PV} (h : Gat σ os es w p xs) : cellsOf p = [p] ∧ okc p = true := by
  rcases h with ⟨rfl, _⟩ | ⟨o, g, wr, _, rfl, _⟩
  · exact ⟨rfl, rfl⟩
  · exact ⟨rfl, rfl⟩
theorem s_some {d : Nat} {op : PO} {ops : List POp} (P : St → Prop) (hP : P σ) (h1 : ∀ σ, P σ → ∃ v σ', evO (EV env) d fr σ op = some (v, σ') ∧ Wos env ops K (fr.set d v) σ') : Wos env (⟨some d, none, op⟩ :: ops) K fr σ := by
  obtain ⟨v, σ', h2, h3⟩ := h1 σ hP
  exact s_plain h2 h3
theorem lead_new {l : List Lab} {xs : List (ByteArray × Rh)} (h : LeadP l xs σ) {d : Nat} (y : Obj) (hd : d ≠ 2000003 ∧ d ≠ 2000006 ∧ d ≠ 2000007 ∧ d ≠ 49) : LeadP l xs (σ.new d y) := by
  obtain ⟨h1, h2, h3, q, h4, h5⟩ := h
  refine ⟨h1.new _ _, ?_, ?_, q, ?_, h5.new y⟩
  · rw [new_m, if_neg (by omega)]; exact h2
  · rw [new_m, if_neg (by omega)]; exact h3
  · rw [new_m, if_neg (by omega)]; exact h4
theorem lead_put {l : List Lab} {xs : List (ByteArray × Rh)} (h : LeadP l xs σ) {d g : Nat} {x : Obj} (hx : σ.m d g = some x) (y : Option Obj) (hd : d ≠ 2000003 ∧ d ≠ 2000006 ∧ d ≠ 2000007 ∧ d ≠ 49) : LeadP l xs (σ.put d g y) := by
  obtain ⟨h1, h2, h3, q, h4, h5⟩ := h
  refine ⟨h1.put hx y, ?_, ?_, q, ?_, h5.put (by simp; omega) y⟩
  · rw [put_m, if_neg (by omega)]; exact h2
  · rw [put_m, if_neg (by omega)]; exact h3
  · rw [put_m, if_neg (by omega)]; exact h4
theorem a303 (H : Mm4 env) (A : Has lha env) (F : Has lkc env) {l : List Lab} (hr : rightL l = true) (hln : l.length ≤ 9223372036854775807) (hls : Smalls l) : ∀ (d : Nat), d < 100 → ∀ r : Rt, r.Held → mayR d r = true → ∀ (p : ByteArray) (σ : St) (xs : List (ByteArray × Rh)),
    p.size + 3 * d ≤ 1000 → xs.length + cntR r ≤ 1000000 → LeadP l xs σ →
    ∃ σ', EV env 303 [rt r, .sc (.string p), .bx 2000003 0 1 0 0, .bx 2000007 0 1 0 0, .bx 2000006 0 1 0 0] σ = some (.tu [], σ') ∧ LeadP l (xs ++ findR l r p) σ' ∧ Kp LeadK σ σ'
  | 0, _, r, _, hm, _, _, _, _, _, _ => by simp [mayR] at hm
  | d + 1, hd, r, hrh, hm, p, σ0, xs, hps, hcn, hP => by
    obtain ⟨h, ks, hh, hkl, hkh⟩ := hrh
    have hmk : headR h ks.length = true ∧ ks.all (mayR d) = true := by
      have : mayR (d + 1) (.mk h ks) = (headR h ks.length && ks.all (mayR d)) := rfl
      rw [this, Bool.and_eq_true] at hm
      exact hm
    obtain ⟨hhd, hka⟩ := hmk
    have hk16 : ks.length ≤ 16 := by
      unfold headR at hhd
      simp only [Bool.and_eq_true, Bool.not_eq_true', Bool.or_eq_false_iff, decide_eq_false_iff_not] at hhd
      omega
    have hkl' := rts_len ks
    obtain ⟨r0, σ', hE, hr0, hP', hK⟩ := EV_wp' (σ := σ0) (R := fun r0 τ => r0 = .tu [] ∧ LeadP l (xs ++ findR l (.mk h ks) p) τ ∧ Kp LeadK σ0 τ) (F (303, d303) (by simp [lkc])) (as := [rt (.mk h ks), .sc (.string p), .bx 2000003 0 1 0 0, .bx 2000007 0 1 0 0, .bx 2000006 0 1 0 0]) rfl (by
      rw [rt]
      unfold rhd
      (repeat' first
    | refine w_seq ?_ | refine w_rg ?_ | refine wo_nil ?_ | refine g_skU ?_ | refine g_skT ?_ | refine g_skF ?_
    | ((first | apply s_plain | apply s_void | apply s_guard | apply g_goT | apply g_goF); · simp only [go_sem, Nat.reduceEqDiff, Nat.reduceAdd, Nat.reduceLeDiff, hkl']; (first | done | rfl))
    | ((first | apply g_T | apply g_F | apply g_gT | apply g_gF); · intro q1_; (first | intro q2_ | have q2_ := q1_); simp only [go_sem, Nat.reduceEqDiff, Nat.reduceAdd, Nat.reduceLeDiff, hkl', q1_, q2_]; (first | done | rfl))
    | fail
    )
      refine w_cutB (fun fr σ => fr 1 = .sc (.string p) ∧ fr 4 = .bx 2000006 0 1 0 0 ∧ fr 5 = .bx 2000005 (σ0.c 2000005) 9 0 0 ∧ fr 7 = .sc (.bool (ks.any fun k => holdsA l k.h.ms)) ∧ LeadP l (xs ++ findL l ks p 0) σ ∧ Kp LeadK σ0 σ ∧
        σ.m 2000005 (σ0.c 2000005) = some ⟨9, [rhd h (.sl (rts ks))], true, true⟩) ?_ ?_
      · refine w_rangeF ks.length hkl (fun i fr σ => fr 7 = .sc (.bool ((ks.take i).any fun k => holdsA l k.h.ms)) ∧ (∃ acc, (findL l ks p 0 = acc ++ findL l (ks.drop i) p i ∧ acc.length ≤ cntL (ks.take i)) ∧ LeadP l (xs ++ acc) σ) ∧ Kp LeadK σ0 σ ∧
            σ.m 2000005 (σ0.c 2000005) = some ⟨9, [rhd h (.sl (rts ks))], true, true⟩) ⟨by decide, rfl, rfl⟩ ?_ ?_ (by simp only [go_sem, Nat.reduceEqDiff, Nat.reduceAdd, Nat.reduceLeDiff]; first | done | rfl) (by simp only [go_sem, Nat.reduceEqDiff, Nat.reduceAdd, Nat.reduceLeDiff, hkl']; first | done | rfl) ?_ ?_
        · rintro i fr1 σ1 v ⟨h7, h2⟩
          refine ⟨⟨?_, h2⟩, ⟨?_, h2⟩, ⟨?_, h2⟩⟩ <;> simp only [go_sem, Nat.reduceEqDiff, Nat.reduceAdd, Nat.reduceLeDiff, h7]
        · refine ⟨by simp only [go_sem, Nat.reduceEqDiff, Nat.reduceAdd, Nat.reduceLeDiff, List.any_nil], ⟨[], ⟨by simp, by simp⟩, by rw [List.append_nil]; exact lead_new hP _ (by decide)⟩, (Kp.refl hP.fr).new _ _, by simp only [go_sem, Nat.reduceEqDiff, Nat.reduceAdd, Nat.reduceLeDiff, rhd]⟩
        · rintro i fr1 σ1 hi ⟨h7, ⟨acc, ⟨hacc, hal⟩, hL⟩, hK, hX⟩ hti hfr
          have f0_1 := hfr 1 rfl; have f0_2 := hfr 2 rfl; have f0_3 := hfr 3 rfl; have f0_13 := hfr 13 rfl; have f0_14 := hfr 14 rfl; try (simp only [go_sem, Nat.reduceEqDiff, Nat.reduceAdd, Nat.reduceLeDiff] at f0_1); try (simp only [go_sem, Nat.reduceEqDiff, Nat.reduceAdd, Nat.reduceLeDiff] at f0_2); try (simp only [go_sem, Nat.reduceEqDiff, Nat.reduceAdd, Nat.reduceLeDiff] at f0_3); try (simp only [go_sem, Nat.reduceEqDiff, Nat.reduceAdd, Nat.reduceLeDiff] at f0_13); try (simp only [go_sem, Nat.reduceEqDiff, Nat.reduceAdd, Nat.reduceLeDiff] at f0_14)
          have hx := List.getElem?_eq_getElem hi
          have hy := rts_at hx
          rw [rt_eq] at hy
          have e1 : (0 : Int) ≤ (i : Int) ∧ (i : Int) < (ks.length : Int) := by omega
          have hkm : mayR d ks[i] = true := List.all_eq_true.1 hka _ (List.getElem_mem hi)
          have hkd := hkh _ (List.getElem_mem hi)
          have hdrop : ks.drop i = ks[i] :: ks.drop (i + 1) := List.drop_eq_getElem_cons hi
          have htake : (ks.take (i + 1)).any (fun k => holdsA l k.h.ms) = ((ks.take i).any (fun k => holdsA l k.h.ms) || holdsA l ks[i].h.ms) := by
            rw [List.take_succ_eq_append_getElem hi, List.any_append, List.any_cons, List.any_nil, Bool.or_false]
          have hany : holdsA l ks[i].h.ms = true → ks.any (fun k => holdsA l k.h.ms) = true := fun hh => List.any_eq_true.2 ⟨_, List.getElem_mem hi, hh⟩
          have hcnt0 := cntL_take hi
          have hcnt1 := cntL_take_le ks (i + 1)
          rw [cntR_mk] at hcn
          rw [hdrop, findL_cons] at hacc
          generalize ks[i] = k at hx hy hkm hkd hdrop htake hany hcnt0 hacc
          have h299 : AV env 299 [.sl (labs l), .sl (mts k.h.ms)] = some (.tu [.sc (.bool (holdsA l k.h.ms)), .sc (.int .i64 0)]) := by
            have := a299 H (ms := k.h.ms) (l := l) hkd.hd.ms hkd.hd.mss hln hls
            rw [hr, mayR_ms hkm] at this
            exact this
          have hkn := findR_len l k (stepP p i)
          have ho := hL.l
          unfold rhd at hy
          refine w_block ?_
          (repeat' first
    | refine w_seq ?_ | refine w_rg ?_ | refine wo_nil ?_ | refine g_skU ?_ | refine g_skT ?_ | refine g_skF ?_
    | ((first | apply s_plain | apply s_void | apply s_guard | apply g_goT | apply g_goF); · simp only [go_sem, Nat.reduceEqDiff, Nat.reduceAdd, Nat.reduceLeDiff, f0_1, f0_2, f0_3, f0_13, f0_14, hti, e1, hkl', Int.toNat_natCast, hy, ho, h299, List.set_cons_succ]; (first | done | rfl))
    | ((first | apply g_T | apply g_F | apply g_gT | apply g_gF); · intro q1_; (first | intro q2_ | have q2_ := q1_); simp only [go_sem, Nat.reduceEqDiff, Nat.reduceAdd, Nat.reduceLeDiff, f0_1, f0_2, f0_3, f0_13, f0_14, hti, e1, hkl', Int.toNat_natCast, hy, ho, h299, List.set_cons_succ, q1_, q2_]; (first | done | rfl))
    | fail
    )
          have hL1 : LeadP l (xs ++ acc) ((σ1.new 2000009 ⟨9, [.agg [.sc (.string ⟨#[]⟩), .em, .em, .sc (.int .i64 0), .sc (.int .i64 0), .sc (.int .i64 0), .em, .sc (.bool false), .em]], true, true⟩).put 2000009 (σ1.c 2000009) (some ⟨9, [rhd k.h (.sl (rts k.ks))], true, true⟩)) := lead_put (lead_new hL _ (by decide)) (by simp only [go_sem, Nat.reduceEqDiff, Nat.reduceAdd, Nat.reduceLeDiff]; rfl) _ (by decide)
          have hK1 : Kp LeadK σ0 ((σ1.new 2000009 ⟨9, [.agg [.sc (.string ⟨#[]⟩), .em, .em, .sc (.int .i64 0), .sc (.int .i64 0), .sc (.int .i64 0), .em, .sc (.bool false), .em]], true, true⟩).put 2000009 (σ1.c 2000009) (some ⟨9, [rhd k.h (.sl (rts k.ks))], true, true⟩)) := (hK.new _ _).put (x := ⟨9, [.agg [.sc (.string ⟨#[]⟩), .em, .em, .sc (.int .i64 0), .sc (.int .i64 0), .sc (.int .i64 0), .em, .sc (.bool false), .em]], true, true⟩) (by simp only [go_sem, Nat.reduceEqDiff, Nat.reduceAdd, Nat.reduceLeDiff]) (.inr (hK.c _)) _
          have hX1 : ((σ1.new 2000009 ⟨9, [.agg [.sc (.string ⟨#[]⟩), .em, .em, .sc (.int .i64 0), .sc (.int .i64 0), .sc (.int .i64 0), .em, .sc (.bool false), .em]], true, true⟩).put 2000009 (σ1.c 2000009) (some ⟨9, [rhd k.h (.sl (rts k.ks))], true, true⟩)).m 2000005 (σ0.c 2000005) = some ⟨9, [rhd h (.sl (rts ks))], true, true⟩ := by simp only [go_sem, Nat.reduceEqDiff, Nat.reduceAdd, Nat.reduceLeDiff, hX]
          have hB1 : ((σ1.new 2000009 ⟨9, [.agg [.sc (.string ⟨#[]⟩), .em, .em, .sc (.int .i64 0), .sc (.int .i64 0), .sc (.int .i64 0), .em, .sc (.bool false), .em]], true, true⟩).put 2000009 (σ1.c 2000009) (some ⟨9, [rhd k.h (.sl (rts k.ks))], true, true⟩)).m 2000009 (σ1.c 2000009) = some ⟨9, [rhd k.h (.sl (rts k.ks))], true, true⟩ := by simp only [go_sem, Nat.reduceEqDiff, Nat.reduceAdd, Nat.reduceLeDiff]
          unfold rhd at hL1 hK1 hX1 hB1
          generalize ((σ1.new 2000009 ⟨9, [.agg [.sc (.string ⟨#[]⟩), .em, .em, .sc (.int .i64 0), .sc (.int .i64 0), .sc (.int .i64 0), .em, .sc (.bool false), .em]], true, true⟩).put 2000009 (σ1.c 2000009) _) = σ2 at hL1 hK1 hX1 hB1 ⊢
          refine w_condB (by simp only [go_sem, Nat.reduceEqDiff, Nat.reduceAdd, Nat.reduceLeDiff]; first | done | rfl) (fun hc => ?_) (fun hc => ?_)
          · have hb : holdsA l k.h.ms = false := by simpa using hc
            rw [hb] at htake hacc
            simp only [Bool.false_eq_true, if_false, Bool.or_false] at hacc htake
            (repeat' first
    | refine w_seq ?_ | refine w_rg ?_ | refine wo_nil ?_ | refine g_skU ?_ | refine g_skT ?_ | refine g_skF ?_
    | ((first | apply s_plain | apply s_void | apply s_guard | apply g_goT | apply g_goF); · simp only [go_sem, Nat.reduceEqDiff, Nat.reduceAdd, Nat.reduceLeDiff]; (first | done | rfl))
    | ((first | apply g_T | apply g_F | apply g_gT | apply g_gF); · intro q1_; (first | intro q2_ | have q2_ := q1_); simp only [go_sem, Nat.reduceEqDiff, Nat.reduceAdd, Nat.reduceLeDiff, q1_, q2_]; (first | done | rfl))
    | (apply w_condX; · simp only [go_sem, Nat.reduceEqDiff, Nat.reduceAdd, Nat.reduceLeDiff]; (first | done | rfl)); (first | refine wcd_T ?_ | refine wcd_F ?_)
    | refine w_skip ?_ | refine w_exit ?_ | refine w_ret ?_
    | fail
    )
            try simp only [if_true]
            refine ⟨?_, ⟨acc, ⟨hacc, by omega⟩, hL1⟩, hK1, hX1⟩
            simp only [go_sem, Nat.reduceEqDiff, Nat.reduceAdd, Nat.reduceLeDiff, h7, htake]
          · have hb : holdsA l k.h.ms = true := by simpa using hc
            rw [hb] at htake hacc
            simp only [if_true, Bool.or_true] at hacc htake
            have hi16 : i < 16 := by omega
            have hsz := stepP_size p hi16
            have h203 := a203 A (n := (i : Int)) (by omega) (by omega)
            have hit := itoa16 hi16
            obtain ⟨τ, hτ, hLτ, hKτ⟩ := a303 H A F hr hln hls d (by omega) k hkd hkm (stepP p i) σ2 (xs ++ acc) (by omega) (by rw [List.length_append]; omega) hL1
            rw [rt_eq] at hτ
            unfold rhd stepP at hτ
            have hs1 : p.size + 1 ≤ 9223372036854775807 := by omega
            have hs2 : (p ++ (⟨#[46]⟩ : ByteArray)).size + (itoaS (i : Int)).size ≤ 9223372036854775807 := by
              rw [ByteArray.size_append]
              have : (⟨#[46]⟩ : ByteArray).size = 1 := rfl
              omega
            have hf2 := hL1.f
            have hgc : σ1.c 2000009 < σ2.c 2000009 := hL1.fr 2000009 _ (by rw [hB1]; rfl)
            have hg5 : σ0.c 2000005 < σ2.c 2000005 := hL1.fr 2000005 _ (by rw [hX1]; rfl)
            have hBτ := hKτ.m 2000009 (σ1.c 2000009) (by decide) hgc
            rw [hB1] at hBτ
            have hXτ := hKτ.m 2000005 (σ0.c 2000005) (by decide) hg5
            rw [hX1] at hXτ
            (repeat' first
    | refine w_seq ?_ | refine w_rg ?_ | refine wo_nil ?_ | refine g_skU ?_ | refine g_skT ?_ | refine g_skF ?_
    | ((first | apply s_plain | apply s_void | apply s_guard | apply g_goT | apply g_goF); · simp only [go_sem, Nat.reduceEqDiff, Nat.reduceAdd, Nat.reduceLeDiff, f0_1, f0_2, f0_3, f0_13, f0_14, hB1, hf2, h203, hs1, hs2, hτ, hBτ]; (first | done | rfl))
    | ((first | apply g_T | apply g_F | apply g_gT | apply g_gF); · intro q1_; (first | intro q2_ | have q2_ := q1_); simp only [go_sem, Nat.reduceEqDiff, Nat.reduceAdd, Nat.reduceLeDiff, f0_1, f0_2, f0_3, f0_13, f0_14, hB1, hf2, h203, hs1, hs2, hτ, hBτ, q1_, q2_]; (first | done | rfl))
    | (apply w_condX; · simp only [go_sem, Nat.reduceEqDiff, Nat.reduceAdd, Nat.reduceLeDiff, f0_1, f0_2, f0_3, f0_13, f0_14, hB1, hf2, h203, hs1, hs2, hτ, hBτ]; (first | done | rfl)); (first | refine wcd_T ?_ | refine wcd_F ?_)
    | refine w_skip ?_ | refine w_exit ?_ | refine w_ret ?_
    | fail
    )
            cases hon : k.h.on with
            | true =>
              rw [hon] at hacc
              simp only [if_true] at hacc
              (repeat' first
    | refine w_seq ?_ | refine w_rg ?_ | refine wo_nil ?_ | refine g_skU ?_ | refine g_skT ?_ | refine g_skF ?_
    | ((first | apply s_plain | apply s_void | apply s_guard | apply g_goT | apply g_goF); · simp only [go_sem, Nat.reduceEqDiff, Nat.reduceAdd, Nat.reduceLeDiff, hon]; (first | done | rfl))
    | ((first | apply g_T | apply g_F | apply g_gT | apply g_gF); · intro q1_; (first | intro q2_ | have q2_ := q1_); simp only [go_sem, Nat.reduceEqDiff, Nat.reduceAdd, Nat.reduceLeDiff, hon, q1_, q2_]; (first | done | rfl))
    | (apply w_condX; · simp only [go_sem, Nat.reduceEqDiff, Nat.reduceAdd, Nat.reduceLeDiff, hon]; (first | done | rfl)); (first | refine wcd_T ?_ | refine wcd_F ?_)
    | refine w_skip ?_ | refine w_exit ?_ | refine w_ret ?_
    | fail
    )
              try simp only [if_true]
              refine ⟨?_, ⟨acc ++ findR l k (stepP p i), ⟨by rw [hacc, List.append_assoc], by rw [List.length_append]; omega⟩, by rw [← List.append_assoc]; exact hLτ⟩, hK1.trans hKτ, hXτ⟩
              simp only [go_sem, Nat.reduceEqDiff, Nat.reduceAdd, Nat.reduceLeDiff, htake]
            | false =>
              rw [hon] at hacc
              simp only [Bool.false_eq_true, if_false, List.append_nil] at hacc
              (repeat' first
    | refine w_seq ?_ | refine w_rg ?_ | refine wo_nil ?_ | refine g_skU ?_ | refine g_skT ?_ | refine g_skF ?_
    | ((first | apply s_plain | apply s_void | apply s_guard | apply g_goT | apply g_goF); · simp only [go_sem, Nat.reduceEqDiff, Nat.reduceAdd, Nat.reduceLeDiff, hon]; (first | done | rfl))
    | ((first | apply g_T | apply g_F | apply g_gT | apply g_gF); · intro q1_; (first | intro q2_ | have q2_ := q1_); simp only [go_sem, Nat.reduceEqDiff, Nat.reduceAdd, Nat.reduceLeDiff, hon, q1_, q2_]; (first | done | rfl))
    | (apply w_condX; · simp only [go_sem, Nat.reduceEqDiff, Nat.reduceAdd, Nat.reduceLeDiff, hon]; (first | done | rfl)); (first | refine wcd_T ?_ | refine wcd_F ?_)
    | refine w_skip ?_ | refine w_exit ?_ | refine w_ret ?_
    | fail
    )
              try simp only [if_true]
              refine ⟨by simp only [go_sem, Nat.reduceEqDiff, Nat.reduceAdd, Nat.reduceLeDiff, f0_1, f0_2, f0_3, f0_13, f0_14], by simp only [go_sem, Nat.reduceEqDiff, Nat.reduceAdd, Nat.reduceLeDiff]; exact (hfr 4 rfl).trans (by simp only [go_sem, Nat.reduceEqDiff, Nat.reduceAdd, Nat.reduceLeDiff]), by simp only [go_sem, Nat.reduceEqDiff, Nat.reduceAdd, Nat.reduceLeDiff]; exact (hfr 5 rfl).trans (by simp only [go_sem, Nat.reduceEqDiff, Nat.reduceAdd, Nat.reduceLeDiff]), by simp only [go_sem, Nat.reduceEqDiff, Nat.reduceAdd, Nat.reduceLeDiff, hany hb], by rw [hacc, ← List.append_assoc]; exact hLτ, hK1.trans hKτ, hXτ⟩
        · rintro fr1 σ1 ⟨h7, ⟨acc, ⟨hacc, hal⟩, hL⟩, hK, hX⟩ hfr
          have e0_1 := hfr 1 rfl; have e0_4 := hfr 4 rfl; have e0_5 := hfr 5 rfl; try (simp only [go_sem, Nat.reduceEqDiff, Nat.reduceAdd, Nat.reduceLeDiff] at e0_1); try (simp only [go_sem, Nat.reduceEqDiff, Nat.reduceAdd, Nat.reduceLeDiff] at e0_4); try (simp only [go_sem, Nat.reduceEqDiff, Nat.reduceAdd, Nat.reduceLeDiff] at e0_5)
          try simp only [if_true]
          rw [List.drop_length, findL_nil, List.append_nil] at hacc
          rw [List.take_length] at h7
          rw [← hacc] at hL
          exact ⟨by simp only [e0_1, e0_4, e0_5], by simp only [e0_1, e0_4, e0_5], by simp only [e0_1, e0_4, e0_5], h7, hL, hK, hX⟩
      · rintro fr1 σ1 ⟨g1, g4, g5, g7, hL, hK, hX⟩
        try simp only [if_true]
        obtain ⟨q, ho, hg⟩ := hL.o
        unfold rhd at hX
        cases ha : ks.any (fun k => holdsA l k.h.ms) with
        | true =>
          rw [ha] at g7
          have hfR : findR l (.mk h ks) p = findL l ks p 0 := by rw [findR_mk, if_pos ha]
          rw [hfR]
          (repeat' first
    | refine w_seq ?_ | refine w_rg ?_ | refine wo_nil ?_ | refine g_skU ?_ | refine g_skT ?_ | refine g_skF ?_
    | ((first | apply s_plain | apply s_void | apply s_guard | apply g_goT | apply g_goF); · simp only [go_sem, Nat.reduceEqDiff, Nat.reduceAdd, Nat.reduceLeDiff, g7]; (first | done | rfl))
    | ((first | apply g_T | apply g_F | apply g_gT | apply g_gF); · intro q1_; (first | intro q2_ | have q2_ := q1_); simp only [go_sem, Nat.reduceEqDiff, Nat.reduceAdd, Nat.reduceLeDiff, g7, q1_, q2_]; (first | done | rfl))
    | (apply w_condX; · simp only [go_sem, Nat.reduceEqDiff, Nat.reduceAdd, Nat.reduceLeDiff, g7]; (first | done | rfl)); (first | refine wcd_T ?_ | refine wcd_F ?_)
    | refine w_skip ?_ | refine w_exit ?_ | refine w_ret ?_
    | fail
    )
          exact ⟨.inl rfl, .tu [], rfl, rfl, hL, hK⟩
        | false =>
          rw [ha] at g7
          have hfR : findR l (.mk h ks) p = [(p, h)] := by rw [findR_mk, ha]; rfl
          have hfL : findL l ks p 0 = [] := findL_none l ks p 0 ha
          rw [hfL, List.append_nil] at hL hg
          rw [hfR]
          (repeat' first
    | refine w_seq ?_ | refine w_rg ?_ | refine wo_nil ?_ | refine g_skU ?_ | refine g_skT ?_ | refine g_skF ?_
    | ((first | apply s_plain | apply s_void | apply s_guard | apply g_goT | apply g_goF); · simp only [go_sem, Nat.reduceEqDiff, Nat.reduceAdd, Nat.reduceLeDiff, g7, g5, g4, g1, hX, ho, List.set_cons_succ]; (first | done | rfl))
    | ((first | apply g_T | apply g_F | apply g_gT | apply g_gF); · intro q1_; (first | intro q2_ | have q2_ := q1_); simp only [go_sem, Nat.reduceEqDiff, Nat.reduceAdd, Nat.reduceLeDiff, g7, g5, g4, g1, hX, ho, List.set_cons_succ, q1_, q2_]; (first | done | rfl))
    | (apply w_condX; · simp only [go_sem, Nat.reduceEqDiff, Nat.reduceAdd, Nat.reduceLeDiff, g7, g5, g4, g1, hX, ho, List.set_cons_succ]; (first | done | rfl)); (first | refine wcd_T ?_ | refine wcd_F ?_)
    | refine w_skip ?_ | refine w_exit ?_ | refine w_ret ?_
    | fail
    )
          have hL2 := lead_put hL hX (some ⟨9, [.agg [.sc (.string h.recv), .sl (mts h.ms), .sl (strs h.bys), .sc (.int .i64 h.wait), .sc (.int .i64 h.every), .sc (.int .i64 h.rep), .sl (strs h.mute), .sc (.bool h.on), .em]], true, true⟩) (by decide)
          have hK2 := hK.put hX (.inr (Nat.le_refl _)) (some ⟨9, [.agg [.sc (.string h.recv), .sl (mts h.ms), .sl (strs h.bys), .sc (.int .i64 h.wait), .sc (.int .i64 h.every), .sc (.int .i64 h.rep), .sl (strs h.mute), .sc (.bool h.on), .em]], true, true⟩)
          have hX2 : (σ1.put 2000005 (σ0.c 2000005) (some ⟨9, [.agg [.sc (.string h.recv), .sl (mts h.ms), .sl (strs h.bys), .sc (.int .i64 h.wait), .sc (.int .i64 h.every), .sc (.int .i64 h.rep), .sl (strs h.mute), .sc (.bool h.on), .em]], true, true⟩)).m 2000005 (σ0.c 2000005) = some ⟨9, [.agg [.sc (.string h.recv), .sl (mts h.ms), .sl (strs h.bys), .sc (.int .i64 h.wait), .sc (.int .i64 h.every), .sc (.int .i64 h.rep), .sl (strs h.mute), .sc (.bool h.on), .em]], true, true⟩ := by simp only [go_sem, Nat.reduceEqDiff, Nat.reduceAdd, Nat.reduceLeDiff]
          clear ho hg
          generalize σ1.put 2000005 (σ0.c 2000005) _ = σ2 at hL2 hK2 hX2 ⊢
          obtain ⟨q, ho, hg⟩ := hL2.o
          obtain ⟨cq, okq⟩ := hg.ok
          (repeat' first
    | refine w_seq ?_ | refine w_rg ?_ | refine wo_nil ?_ | refine g_skU ?_ | refine g_skT ?_ | refine g_skF ?_
    | ((first | apply s_plain | apply s_void | apply s_guard | apply g_goT | apply g_goF); · simp only [go_sem, Nat.reduceEqDiff, Nat.reduceAdd, Nat.reduceLeDiff, g5, g4, g1, hX2, ho, cq, List.set_cons_succ]; (first | done | rfl))
    | ((first | apply g_T | apply g_F | apply g_gT | apply g_gF); · intro q1_; (first | intro q2_ | have q2_ := q1_); simp only [go_sem, Nat.reduceEqDiff, Nat.reduceAdd, Nat.reduceLeDiff, g5, g4, g1, hX2, ho, cq, List.set_cons_succ, q1_, q2_]; (first | done | rfl))
    | fail
    )
          refine s_gat2 (d := 49) (t := 44) (x := .t 48) (xs := tgs xs) (e := tgV (p, h)) (by simp only [go_sem, Nat.reduceEqDiff, Nat.reduceAdd, Nat.reduceLeDiff]; exact hg.new _) (hL2.fr.new _ _) (by simp only [go_sem, Nat.reduceEqDiff, Nat.reduceAdd, Nat.reduceLeDiff, srcOf, elemsOf, List.set_cons_succ, tgV, rhd]) rfl rfl (by rw [tgs_len]; rw [cntR_mk] at hcn; omega) ?_
          intro p2 σ3 hg2 hF2 _ hm2 hc2 hd2
          have n6 : σ3.m 2000006 0 = some ⟨1, [q], true, true⟩ := by rw [hm2 _ _ (by decide)]; simp only [go_sem, Nat.reduceEqDiff, Nat.reduceAdd, Nat.reduceLeDiff, ho]
          obtain ⟨cq2, okq2⟩ := hg2.ok
          (repeat' first
    | refine w_seq ?_ | refine w_rg ?_ | refine wo_nil ?_ | refine g_skU ?_ | refine g_skT ?_ | refine g_skF ?_
    | ((first | apply s_plain | apply s_void | apply s_guard | apply g_goT | apply g_goF); · simp only [go_sem, Nat.reduceEqDiff, Nat.reduceAdd, Nat.reduceLeDiff, g4, n6, cq2, okq2, List.set_cons_succ]; (first | done | rfl))
    | ((first | apply g_T | apply g_F | apply g_gT | apply g_gF); · intro q1_; (first | intro q2_ | have q2_ := q1_); simp only [go_sem, Nat.reduceEqDiff, Nat.reduceAdd, Nat.reduceLeDiff, g4, n6, cq2, okq2, List.set_cons_succ, q1_, q2_]; (first | done | rfl))
    | fail
    )
          refine ⟨.inl rfl, .tu [], rfl, rfl, ⟨hF2.put n6 _, ?_, ?_, p2, by simp only [go_sem, Nat.reduceEqDiff, Nat.reduceAdd, Nat.reduceLeDiff], ?_⟩, ?_⟩
          · rw [put_m, if_neg (by decide), hm2 _ _ (by decide), new_m, if_neg (by omega)]; exact hL2.l
          · rw [put_m, if_neg (by decide), hm2 _ _ (by decide), new_m, if_neg (by omega)]; exact hL2.f
          · have : tgs (xs ++ [(p, h)]) = tgs xs ++ [tgV (p, h)] := by simp [tgs]
            rw [this]
            exact hg2.put (by decide) _
          · exact (((hK2.new 48 _).app (d := 49) hF2 hm2 hc2 (by decide) hd2).put n6 (.inl (by decide)) _))
    exact ⟨σ', by rw [hE, hr0], hP', hK⟩
def tgF (q : ByteArray × Rh) : PV := .agg (.sc (.string q.1) :: cellsOf (rhd q.2 (.sl [])))
def tgFs (l : List (ByteArray × Rh)) : List PV := l.map tgF
theorem tgFs_len (l : List (ByteArray × Rh)) : (tgFs l).length = l.length := by simp [tgFs]
theorem tgFs_at {l : List (ByteArray × Rh)} {i : Nat} {q : ByteArray × Rh} (h : l[i]? = some q) : (tgFs l)[i]? = some (tgF q) := by simp [tgFs, h]
theorem tgs_fz (σ : St) (d : Nat) (l : List (ByteArray × Rh)) : (tgs l).mapM (fz σ (d + 2)) = some (tgFs l) := by
  induction l with
  | nil => rfl
  | cons m r ih =>
    show List.mapM (fz σ (d + 2)) (tgV m :: tgs r) = _
    rw [mapM_cons', ih]
    rfl
theorem gat_fz2 {os : List Nat} {es d : Nat} {w : Bool} {p : PV} {xs ys : List PV} (h : Gat σ os es w p xs) (hx : xs.mapM (fz σ d) = some ys) : fz σ (d + 1) p = some (.sl ys) := by
  rcases h with ⟨rfl, rfl⟩ | ⟨o, g, wr, _, rfl, h2, _⟩
  · rw [mapM_nil'] at hx
    simp only [Option.some.injEq] at hx
    subst hx
    rfl
  · rw [fz_ob, h2]
    simp only
    rw [if_pos ⟨trivial, by omega⟩, List.drop_zero, List.take_length, hx]
    rfl
theorem a296 (H : Mm4 env) (B : Has lkb env) (A : Has lha env) (F : Has lkc env) {r : Rt} {l : List Lab} (hrh : r.Held) (hc : cntR r ≤ 1000000) (hln : l.length ≤ 9223372036854775807) (hls : Smalls l) :
    AV env 296 [rt r, .sl (labs l)] = some (if mayR 4 r && rightL l then .tu [.sl (tgFs (findR l r ⟨#[]⟩)), .sc (.int .i64 0)] else .tu [.sl [], .sc (.int .i64 1)]) := by
  have h298 := a298 H B hrh
  have h113 := a113 H.l H.c hln hls
  refine AV_wp (F (296, d296) (by simp [lkc])) rfl ?_
  rw [rt_eq] at h298
  rw [rt_eq r]
  unfold rhd at h298 ⊢
  cases hm : mayR 4 r with
  | false =>
    rw [hm] at h298
    (repeat' first
    | refine w_seq ?_ | refine w_rg ?_ | refine wo_nil ?_ | refine g_skU ?_ | refine g_skT ?_ | refine g_skF ?_
    | ((first | apply s_plain | apply s_void | apply s_guard | apply g_goT | apply g_goF); · simp only [go_sem, Nat.reduceEqDiff, Nat.reduceAdd, Nat.reduceLeDiff, h298]; (first | done | rfl))
    | ((first | apply g_T | apply g_F | apply g_gT | apply g_gF); · intro q1_; (first | intro q2_ | have q2_ := q1_); simp only [go_sem, Nat.reduceEqDiff, Nat.reduceAdd, Nat.reduceLeDiff, h298, q1_, q2_]; (first | done | rfl))
    | (apply w_condX; · simp only [go_sem, Nat.reduceEqDiff, Nat.reduceAdd, Nat.reduceLeDiff, h298]; (first | done | rfl)); (first | refine wcd_T ?_ | refine wcd_F ?_)
    | refine w_skip ?_ | refine w_exit ?_ | refine w_ret ?_
    | fail
    )
    exact ⟨by first | exact .inr rfl | exact .inr trivial | exact .inl rfl, by simp only [go_sem, Nat.reduceEqDiff, Nat.reduceAdd, Nat.reduceLeDiff, retOf, resOf, Bool.false_and]; first | done | rfl⟩
  | true =>
    rw [hm] at h298
    cases hr : rightL l with
    | false =>
      rw [hr] at h113
      (repeat' first
    | refine w_seq ?_ | refine w_rg ?_ | refine wo_nil ?_ | refine g_skU ?_ | refine g_skT ?_ | refine g_skF ?_
    | ((first | apply s_plain | apply s_void | apply s_guard | apply g_goT | apply g_goF); · simp only [go_sem, Nat.reduceEqDiff, Nat.reduceAdd, Nat.reduceLeDiff, h298, h113]; (first | done | rfl))
    | ((first | apply g_T | apply g_F | apply g_gT | apply g_gF); · intro q1_; (first | intro q2_ | have q2_ := q1_); simp only [go_sem, Nat.reduceEqDiff, Nat.reduceAdd, Nat.reduceLeDiff, h298, h113, q1_, q2_]; (first | done | rfl))
    | (apply w_condX; · simp only [go_sem, Nat.reduceEqDiff, Nat.reduceAdd, Nat.reduceLeDiff, h298, h113]; (first | done | rfl)); (first | refine wcd_T ?_ | refine wcd_F ?_)
    | refine w_skip ?_ | refine w_exit ?_ | refine w_ret ?_
    | fail
    )
      exact ⟨by first | exact .inr rfl | exact .inr trivial | exact .inl rfl, by simp only [go_sem, Nat.reduceEqDiff, Nat.reduceAdd, Nat.reduceLeDiff, retOf, resOf, Bool.and_false]; first | done | rfl⟩
    | true =>
      rw [hr] at h113
      (repeat' first
    | refine w_seq ?_ | refine w_rg ?_ | refine wo_nil ?_ | refine g_skU ?_ | refine g_skT ?_ | refine g_skF ?_
    | ((first | apply s_plain | apply s_void | apply s_guard | apply g_goT | apply g_goF); · simp only [go_sem, Nat.reduceEqDiff, Nat.reduceAdd, Nat.reduceLeDiff, h298, h113, List.set_cons_succ]; (first | done | rfl))
    | ((first | apply g_T | apply g_F | apply g_gT | apply g_gF); · intro q1_; (first | intro q2_ | have q2_ := q1_); simp only [go_sem, Nat.reduceEqDiff, Nat.reduceAdd, Nat.reduceLeDiff, h298, h113, List.set_cons_succ, q1_, q2_]; (first | done | rfl))
    | (apply w_condX; · simp only [go_sem, Nat.reduceEqDiff, Nat.reduceAdd, Nat.reduceLeDiff, h298, h113, List.set_cons_succ]; (first | done | rfl)); (first | refine wcd_T ?_ | refine wcd_F ?_)
    | refine w_skip ?_ | refine w_exit ?_ | refine w_ret ?_
    | fail
    )
      refine s_some (LeadP l []) ⟨?_, by simp only [go_sem, Nat.reduceEqDiff, Nat.reduceAdd, Nat.reduceLeDiff, List.set_cons_succ], by simp only [go_sem, Nat.reduceEqDiff, Nat.reduceAdd, Nat.reduceLeDiff, List.set_cons_succ], .em, by simp only [go_sem, Nat.reduceEqDiff, Nat.reduceAdd, Nat.reduceLeDiff, List.set_cons_succ], .em⟩ ?_
      · exact Fresh.put (((((Fresh.nil.new _ _).new _ _).new _ _).new _ _)) (x := ⟨1, [.sc .nilFunc], true, true⟩) (by simp only [go_sem, Nat.reduceEqDiff, Nat.reduceAdd, Nat.reduceLeDiff]) _
      intro σ1 hL
      obtain ⟨τ, hτ, hLτ, hKτ⟩ := a303 H A F hr hln hls 4 (by omega) r hrh hm ⟨#[]⟩ σ1 [] (by show (0 : Nat) + 12 ≤ 1000; omega) (by simpa using hc) hL
      rw [rt_eq] at hτ
      unfold rhd at hτ
      refine ⟨.tu [], τ, by simp only [go_sem, Nat.reduceEqDiff, Nat.reduceAdd, Nat.reduceLeDiff, hτ], ?_⟩
      obtain ⟨q, ho, hg⟩ := hLτ.o
      obtain ⟨cq, okq⟩ := hg.ok
      rw [List.nil_append] at hg
      have hz := gat_fz2 hg (tgs_fz τ 8 _)
      (repeat' first
    | refine w_seq ?_ | refine w_rg ?_ | refine wo_nil ?_ | refine g_skU ?_ | refine g_skT ?_ | refine g_skF ?_
    | ((first | apply s_plain | apply s_void | apply s_guard | apply g_goT | apply g_goF); · simp only [go_sem, Nat.reduceEqDiff, Nat.reduceAdd, Nat.reduceLeDiff, ho, cq]; (first | done | rfl))
    | ((first | apply g_T | apply g_F | apply g_gT | apply g_gF); · intro q1_; (first | intro q2_ | have q2_ := q1_); simp only [go_sem, Nat.reduceEqDiff, Nat.reduceAdd, Nat.reduceLeDiff, ho, cq, q1_, q2_]; (first | done | rfl))
    | (apply w_condX; · simp only [go_sem, Nat.reduceEqDiff, Nat.reduceAdd, Nat.reduceLeDiff, ho, cq]; (first | done | rfl)); (first | refine wcd_T ?_ | refine wcd_F ?_)
    | refine w_skip ?_ | refine w_exit ?_ | refine w_ret ?_
    | fail
    )
      exact ⟨by first | exact .inr rfl | exact .inr trivial | exact .inl rfl, by simp only [go_sem, Nat.reduceEqDiff, Nat.reduceAdd, Nat.reduceLeDiff, retOf, resOf, hz]; first | done | rfl⟩
end

end
section
attribute [local go_sem ↓] e_mv e_pick e_bin e_eqs e_beq e_un e_cvi e_str e_s2b e_b2s e_box e_build e_bsl e_ld e_st e_nck e_mkf e_slcS e_slcL e_fa e_fld e_ia e_iaa e_ix e_ixa e_ext e_lenS e_lenL e_mnmx e_app e_appb e_bbx e_msl e_clr e_call e_callv e_icall e_slcA e_mkm e_mput e_mget e_mlen e_mdel pa_t pa_c pa_f slcSP_str hiOf_some hiOf_none loOf_some loOf_none set_eq set_ne
attribute [local go_sem] pv pv1 simple frOf_0 frOf_1 frOf_2 frOf_3 frOf_4 frOf_5 ne_eq not_false_eq_true if_true Bool.false_eq_true if_false pbin punary Option.map_some Option.bind_some pick_and pick_or opt_true Bool.true_and Bool.and_self Bool.and_true Bool.true_or Bool.false_or Bool.not_true Bool.not_false callE pcall_eq List.map_cons List.map_nil List.append_nil List.nil_append List.cons_append mapM_cons' mapM_nil' dep_eq fz_sc fz_sl fz_em fz_fn fz_fp fz_agg fz_tu fz_bx fz_ob Nat.lt_irrefl Nat.zero_lt_one Nat.lt_add_one flat clL cl Bool.or_true okc_sc okc_em okc_sl okc_ob okc_bx okc_fp okc_fn okc_agg okc_ifc cells_agg cells_sc cells_sl cells_em cells_ob cells_fn cells_bx cells_fp List.length_cons List.length_nil Nat.zero_add and_self true_and and_true new_m new_c put_m put_c nil_m nil_c nil_mm new_mm put_mm newM_m newM_c newM_mm putM_m putM_c putM_mm mkeyV_1 mkeyV_2 mapAt_eq deref List.getElem?_cons_zero List.getElem?_cons_succ List.drop_zero List.drop_succ_cons List.take_succ_cons List.take_zero Nat.le_refl false_and and_false decide_true decide_false lenP_em lenP_nil lenP_sl lenP_ob Int.ofNat_zero
section
variable {env : Nat → Option Def} {fr : Fr} {σ : St} {K : Fr → St → Prop} {Q : X → Fr → St → Prop}
structure At102 (r : Rule) (v : Int) (i : Int) (h : Int) (a b : List PV) (fr : Fr) (σ : St) : Prop where
  f1 : fr 1 = .sc (.int .i64 v)
  f2 : fr 2 = .bx 2000002 0 8 0 0
  f5 : fr 5 = .bx 2000005 0 6 0 0
  f6 : fr 6 = .bx 2000006 0 6 0 0
  f7 : fr 7 = .sc (.int .i64 i)
  m2 : σ.m 2000002 0 = some ⟨8, [rule { r with how := h }], true, true⟩
  m5 : σ.m 2000005 0 = some ⟨6, [.agg a], true, true⟩
  m6 : σ.m 2000006 0 = some ⟨6, [.agg b], true, true⟩
end

end
section
attribute [local go_sem ↓] e_mv e_pick e_bin e_eqs e_beq e_un e_cvi e_str e_s2b e_b2s e_box e_build e_bsl e_ld e_st e_nck e_mkf e_slcS e_slcL e_fa e_fld e_ia e_iaa e_ix e_ixa e_ext e_lenS e_lenL e_mnmx e_app e_appb e_bbx e_msl e_clr e_call e_callv e_icall e_slcA e_mkm e_mput e_mget e_mlen e_mdel pa_t pa_c pa_f slcSP_str hiOf_some hiOf_none loOf_some loOf_none set_eq set_ne
attribute [local go_sem] pv pv1 simple frOf_0 frOf_1 frOf_2 frOf_3 frOf_4 frOf_5 ne_eq not_false_eq_true if_true Bool.false_eq_true if_false pbin punary Option.map_some Option.bind_some pick_and pick_or opt_true Bool.true_and Bool.and_self Bool.and_true Bool.true_or Bool.false_or Bool.not_true Bool.not_false callE pcall_eq List.map_cons List.map_nil List.append_nil List.nil_append List.cons_append mapM_cons' mapM_nil' dep_eq fz_sc fz_sl fz_em fz_fn fz_fp fz_agg fz_tu fz_bx fz_ob Nat.lt_irrefl Nat.zero_lt_one Nat.lt_add_one flat clL cl Bool.or_true okc_sc okc_em okc_sl okc_ob okc_bx okc_fp okc_fn okc_agg okc_ifc cells_agg cells_sc cells_sl cells_em cells_ob cells_fn cells_bx cells_fp List.length_cons List.length_nil Nat.zero_add and_self true_and and_true new_m new_c put_m put_c nil_m nil_c nil_mm new_mm put_mm newM_m newM_c newM_mm putM_m putM_c putM_mm mkeyV_1 mkeyV_2 mapAt_eq deref List.getElem?_cons_zero List.getElem?_cons_succ List.drop_zero List.drop_succ_cons List.take_succ_cons List.take_zero Nat.le_refl false_and and_false decide_true decide_false lenP_em lenP_nil lenP_sl lenP_ob Int.ofNat_zero splice fillP fillE List.modify_zero_cons List.replicate_succ List.replicate_zero List.set_cons_zero List.drop_zero ba_data ba_size ba_toList ba_extract ba_append List.toList_toArray
def d293 : Def := (.code 1 [.tmp 2] (.seq (.rg false [⟨.some 2, .none, .mv (.c (.slice .none 0 0))⟩]) (.seq (.rg false [⟨.some 3, .none, .mv (.c (.slice .none 0 0))⟩]) (.seq (.seq (.rg false [⟨.some 6, .none, .mv (.t 0)⟩, ⟨.some 7, .none, .mv (.t 0)⟩, ⟨.some 8, .none, .lenL (.t 7)⟩, ⟨.some 9, .none, .mnmx false [.t 8, .c (.int .i64 10)]⟩, ⟨.some 10, .none, .slcL 2 (.t 6) .none (.some (.t 9))⟩, ⟨.some 11, .none, .lenL (.t 10)⟩, ⟨.some 12, .none, .mv (.c (.int .i64 0))⟩]) (.block 0 (.loop (.seq (.rg false [⟨.some 13, .none, .bin .lss (.t 12) (.t 11)⟩]) (.seq (.cond (.t 13) .skip (.exit 0)) (.seq (.block 1 (.seq (.rg false [⟨.some 14, .none, .ia 2 (.t 10) (.t 12)⟩, ⟨.some 15, .none, .ld (.some 2) (.t 14)⟩, ⟨.some 5, .none, .box (.c (.agg #[.string ⟨#[]⟩, .string ⟨#[]⟩]))⟩, ⟨.none, .none, .st 2 (.t 5) (.t 15)⟩]) (.rg true [⟨.some 16, .none, .mv (.t 3)⟩, ⟨.some 17, .none, .fa 0 (.t 5)⟩, ⟨.some 18, .none, .ld .none (.t 17)⟩, ⟨.some 19, .none, .fa 0 (.t 5)⟩, ⟨.some 20, .none, .ld .none (.t 19)⟩, ⟨.some 21, .none, .lenS (.t 20)⟩, ⟨.some 22, .none, .mnmx false [.t 21, .c (.int .i64 70)]⟩, ⟨.some 23, .none, .slcS (.t 18) .none (.some (.t 22))⟩, ⟨.some 24, .none, .fa 1 (.t 5)⟩, ⟨.some 25, .none, .ld .none (.t 24)⟩, ⟨.some 26, .none, .fa 1 (.t 5)⟩, ⟨.some 27, .none, .ld .none (.t 26)⟩, ⟨.some 28, .none, .lenS (.t 27)⟩, ⟨.some 29, .none, .mnmx false [.t 28, .c (.int .i64 70)]⟩, ⟨.some 30, .none, .slcS (.t 25) .none (.some (.t 29))⟩, ⟨.some 31, .none, .build (.agg #[.string ⟨#[]⟩, .string ⟨#[]⟩]) [(0, (1, .t 23)), (1, (1, .t 30))]⟩, ⟨.some 32, .none, .bsl 2 (.agg #[.string ⟨#[]⟩, .string ⟨#[]⟩]) 1 [(0, .t 31)]⟩, ⟨.some 33, .none, .app 2 32 false (.t 16) (.t 32)⟩, ⟨.some 3, .none, .mv (.t 33)⟩]))) (.rg false [⟨.some 34, .none, .bin .add (.t 12) (.c (.int .i64 1))⟩, ⟨.some 12, .none, .mv (.t 34)⟩]))))))) (.seq (.rg false [⟨.some 35, .none, .mv (.t 3)⟩, ⟨.some 2, .none, .mv (.t 35)⟩]) .ret)))))
def d294 : Def := (.code 2 [.tmp 4] (.seq (.rg false [⟨.some 2, .none, .box (.t 0)⟩, ⟨.some 4, .none, .mv (.c (.int .i64 0))⟩]) (.seq (.rg false [⟨.some 5, .none, .mv (.c (.int .i64 1))⟩]) (.seq (.seq (.rg false [⟨.some 8, .none, .fa 8 (.t 2)⟩, ⟨.some 9, .none, .ld .none (.t 8)⟩, ⟨.some 10, .none, .lenL (.t 9)⟩, ⟨.some 11, .none, .mv (.c (.int .i64 0))⟩]) (.block 0 (.loop (.seq (.rg false [⟨.some 12, .none, .bin .lss (.t 11) (.t 10)⟩]) (.seq (.cond (.t 12) .skip (.exit 0)) (.seq (.block 1 (.seq (.rg false [⟨.some 13, .none, .ia 9 (.t 9) (.t 11)⟩, ⟨.some 14, .none, .ld (.some 9) (.t 13)⟩, ⟨.some 7, .none, .box (.c (.agg #[.string ⟨#[]⟩, .slice .none 0 0, .slice .none 0 0, .int .i64 0, .int .i64 0, .int .i64 0, .slice .none 0 0, .bool false, .slice .none 0 0]))⟩, ⟨.none, .none, .st 9 (.t 7) (.t 14)⟩]) (.seq (.seq (.rg false [⟨.some 15, .none, .mv (.t 5)⟩, ⟨.some 16, .none, .mv (.t 1)⟩, ⟨.some 17, .none, .bin .gtr (.t 15) (.t 16)⟩]) (.cond (.t 17) (.exit 0) .skip)) (.rg false [⟨.some 18, .none, .mv (.t 5)⟩, ⟨.some 19, .none, .ld (.some 9) (.t 7)⟩, ⟨.some 20, .none, .mv (.t 1)⟩, ⟨.some 21, .none, .mv (.t 5)⟩, ⟨.some 22, .none, .bin .sub (.t 20) (.t 21)⟩, ⟨.some 23, .none, .call 294 .pure [.t 19, .t 22]⟩, ⟨.some 24, .none, .bin .add (.t 18) (.t 23)⟩, ⟨.some 5, .none, .mv (.t 24)⟩])))) (.rg false [⟨.some 25, .none, .bin .add (.t 11) (.c (.int .i64 1))⟩, ⟨.some 11, .none, .mv (.t 25)⟩]))))))) (.seq (.rg false [⟨.some 26, .none, .mv (.t 5)⟩, ⟨.some 4, .none, .mv (.t 26)⟩]) .ret)))))
def d297 : Def := (.code 1 [.tmp 2] (.seq (.rg false [⟨.some 1, .none, .box (.t 0)⟩, ⟨.some 2, .none, .mv (.c (.slice .none 0 0))⟩]) (.seq (.rg false [⟨.some 6, .none, .ld (.some 9) (.t 1)⟩, ⟨.some 7, .none, .bsl 9 (.agg #[.string ⟨#[]⟩, .slice .none 0 0, .slice .none 0 0, .int .i64 0, .int .i64 0, .int .i64 0, .slice .none 0 0, .bool false, .slice .none 0 0]) 1 [(0, .t 6)]⟩, ⟨.some 3, .none, .mv (.t 7)⟩]) (.seq (.seq (.rg false [⟨.some 8, .none, .fa 8 (.t 1)⟩, ⟨.some 9, .none, .ld .none (.t 8)⟩, ⟨.some 10, .none, .lenL (.t 9)⟩, ⟨.some 11, .none, .mv (.c (.int .i64 0))⟩]) (.block 0 (.loop (.seq (.rg false [⟨.some 12, .none, .bin .lss (.t 11) (.t 10)⟩]) (.seq (.cond (.t 12) .skip (.exit 0)) (.seq (.block 1 (.seq (.rg false [⟨.some 13, .none, .ia 9 (.t 9) (.t 11)⟩, ⟨.some 14, .none, .ld (.some 9) (.t 13)⟩, ⟨.some 5, .none, .box (.c (.agg #[.string ⟨#[]⟩, .slice .none 0 0, .slice .none 0 0, .int .i64 0, .int .i64 0, .int .i64 0, .slice .none 0 0, .bool false, .slice .none 0 0]))⟩, ⟨.none, .none, .st 9 (.t 5) (.t 14)⟩]) (.rg false [⟨.some 15, .none, .mv (.t 3)⟩, ⟨.some 16, .none, .ld (.some 9) (.t 5)⟩, ⟨.some 17, .none, .call 297 .pure [.t 16]⟩, ⟨.some 18, .none, .app 9 144 false (.t 15) (.t 17)⟩, ⟨.some 3, .none, .mv (.t 18)⟩]))) (.rg false [⟨.some 19, .none, .bin .add (.t 11) (.c (.int .i64 1))⟩, ⟨.some 11, .none, .mv (.t 19)⟩]))))))) (.seq (.rg false [⟨.some 20, .none, .mv (.t 3)⟩, ⟨.some 2, .none, .mv (.t 20)⟩]) .ret)))))
def d309 : Def := (.code 2 [.tmp 4] (.seq (.rg false [⟨.some 2, .none, .box (.t 0)⟩, ⟨.some 3, .none, .box (.t 1)⟩, ⟨.some 4, .none, .mv (.c (.bool false))⟩]) (.seq (.rg false [⟨.some 5, .none, .fa 0 (.t 2)⟩, ⟨.some 6, .none, .ld .none (.t 5)⟩, ⟨.some 7, .none, .fa 0 (.t 3)⟩, ⟨.some 8, .none, .ld .none (.t 7)⟩, ⟨.some 9, .none, .bin .eql (.t 6) (.t 8)⟩, ⟨.some 10, .none, .mv (.t 9)⟩, ⟨.some 11, .some (10, true), .fa 1 (.t 2)⟩, ⟨.some 12, .some (10, true), .ld .none (.t 11)⟩, ⟨.some 13, .some (10, true), .fa 1 (.t 3)⟩, ⟨.some 14, .some (10, true), .ld .none (.t 13)⟩, ⟨.some 15, .some (10, true), .bin .eql (.t 12) (.t 14)⟩, ⟨.some 16, .none, .pick (.t 10) (.t 15) (.c (.bool false))⟩, ⟨.some 17, .none, .mv (.t 16)⟩, ⟨.some 18, .some (17, true), .fa 2 (.t 2)⟩, ⟨.some 19, .some (17, true), .ld .none (.t 18)⟩, ⟨.some 20, .some (17, true), .fa 2 (.t 3)⟩, ⟨.some 21, .some (17, true), .ld .none (.t 20)⟩, ⟨.some 22, .some (17, true), .call 36 .pure [.t 19, .t 21]⟩, ⟨.some 23, .none, .pick (.t 17) (.t 22) (.c (.bool false))⟩, ⟨.some 4, .none, .mv (.t 23)⟩]) .ret)))
def d300 : Def := (.code 2 [.tmp 4] (.seq (.rg false [⟨.some 2, .none, .box (.t 0)⟩, ⟨.some 3, .none, .box (.t 1)⟩, ⟨.some 4, .none, .mv (.c (.bool false))⟩]) (.seq (.seq (.rg false [⟨.some 7, .none, .fa 0 (.t 2)⟩, ⟨.some 8, .none, .ld .none (.t 7)⟩, ⟨.some 9, .none, .fa 0 (.t 3)⟩, ⟨.some 10, .none, .ld .none (.t 9)⟩, ⟨.some 11, .none, .bin .neq (.t 8) (.t 10)⟩, ⟨.some 12, .none, .mv (.t 11)⟩, ⟨.some 13, .some (12, false), .fa 3 (.t 2)⟩, ⟨.some 14, .some (12, false), .ld .none (.t 13)⟩, ⟨.some 15, .some (12, false), .fa 3 (.t 3)⟩, ⟨.some 16, .some (12, false), .ld .none (.t 15)⟩, ⟨.some 17, .some (12, false), .bin .neq (.t 14) (.t 16)⟩, ⟨.some 18, .none, .pick (.t 12) (.c (.bool true)) (.t 17)⟩, ⟨.some 19, .none, .mv (.t 18)⟩, ⟨.some 20, .some (19, false), .fa 4 (.t 2)⟩, ⟨.some 21, .some (19, false), .ld .none (.t 20)⟩, ⟨.some 22, .some (19, false), .fa 4 (.t 3)⟩, ⟨.some 23, .some (19, false), .ld .none (.t 22)⟩, ⟨.some 24, .some (19, false), .bin .neq (.t 21) (.t 23)⟩, ⟨.some 25, .none, .pick (.t 19) (.c (.bool true)) (.t 24)⟩, ⟨.some 26, .none, .mv (.t 25)⟩, ⟨.some 27, .some (26, false), .fa 5 (.t 2)⟩, ⟨.some 28, .some (26, false), .ld .none (.t 27)⟩, ⟨.some 29, .some (26, false), .fa 5 (.t 3)⟩, ⟨.some 30, .some (26, false), .ld .none (.t 29)⟩, ⟨.some 31, .some (26, false), .bin .neq (.t 28) (.t 30)⟩, ⟨.some 32, .none, .pick (.t 26) (.c (.bool true)) (.t 31)⟩, ⟨.some 33, .none, .mv (.t 32)⟩, ⟨.some 34, .some (33, false), .fa 7 (.t 2)⟩, ⟨.some 35, .some (33, false), .ld .none (.t 34)⟩, ⟨.some 36, .some (33, false), .fa 7 (.t 3)⟩, ⟨.some 37, .some (33, false), .ld .none (.t 36)⟩, ⟨.some 38, .some (33, false), .beq true (.t 35) (.t 37)⟩, ⟨.some 39, .none, .pick (.t 33) (.c (.bool true)) (.t 38)⟩, ⟨.some 40, .none, .mv (.t 39)⟩, ⟨.some 41, .some (40, false), .fa 1 (.t 2)⟩, ⟨.some 42, .some (40, false), .ld .none (.t 41)⟩, ⟨.some 43, .some (40, false), .lenL (.t 42)⟩, ⟨.some 44, .some (40, false), .fa 1 (.t 3)⟩, ⟨.some 45, .some (40, false), .ld .none (.t 44)⟩, ⟨.some 46, .some (40, false), .lenL (.t 45)⟩, ⟨.some 47, .some (40, false), .bin .neq (.t 43) (.t 46)⟩, ⟨.some 48, .none, .pick (.t 40) (.c (.bool true)) (.t 47)⟩, ⟨.some 49, .none, .mv (.t 48)⟩, ⟨.some 50, .some (49, false), .fa 8 (.t 2)⟩, ⟨.some 51, .some (49, false), .ld .none (.t 50)⟩, ⟨.some 52, .some (49, false), .lenL (.t 51)⟩, ⟨.some 53, .some (49, false), .fa 8 (.t 3)⟩, ⟨.some 54, .some (49, false), .ld .none (.t 53)⟩, ⟨.some 55, .some (49, false), .lenL (.t 54)⟩, ⟨.some 56, .some (49, false), .bin .neq (.t 52) (.t 55)⟩, ⟨.some 57, .none, .pick (.t 49) (.c (.bool true)) (.t 56)⟩]) (.cond (.t 57) (.seq (.rg false [⟨.some 4, .none, .mv (.c (.bool false))⟩]) .ret) .skip)) (.seq (.seq (.rg false [⟨.some 58, .none, .fa 1 (.t 2)⟩, ⟨.some 59, .none, .ld .none (.t 58)⟩, ⟨.some 60, .none, .lenL (.t 59)⟩, ⟨.some 61, .none, .mv (.c (.int .i64 0))⟩]) (.block 0 (.loop (.seq (.rg false [⟨.some 62, .none, .bin .lss (.t 61) (.t 60)⟩]) (.seq (.cond (.t 62) .skip (.exit 0)) (.seq (.block 1 (.seq (.rg false [⟨.some 63, .none, .mv (.t 61)⟩, ⟨.some 5, .none, .mv (.t 63)⟩]) (.seq (.rg true [⟨.some 64, .none, .fa 1 (.t 2)⟩, ⟨.some 65, .none, .ld .none (.t 64)⟩, ⟨.some 66, .none, .mv (.t 5)⟩, ⟨.some 67, .none, .ia 3 (.t 65) (.t 66)⟩, ⟨.some 68, .none, .ld (.some 3) (.t 67)⟩, ⟨.some 69, .none, .fa 1 (.t 3)⟩, ⟨.some 70, .none, .ld .none (.t 69)⟩, ⟨.some 71, .none, .mv (.t 5)⟩, ⟨.some 72, .none, .ia 3 (.t 70) (.t 71)⟩, ⟨.some 73, .none, .ld (.some 3) (.t 72)⟩, ⟨.some 74, .none, .call 309 .strict [.t 68, .t 73]⟩, ⟨.some 75, .none, .un .not (.t 74)⟩]) (.cond (.t 75) (.seq (.rg false [⟨.some 4, .none, .mv (.c (.bool false))⟩]) .ret) .skip)))) (.rg false [⟨.some 76, .none, .bin .add (.t 61) (.c (.int .i64 1))⟩, ⟨.some 61, .none, .mv (.t 76)⟩]))))))) (.seq (.seq (.rg false [⟨.some 77, .none, .fa 8 (.t 2)⟩, ⟨.some 78, .none, .ld .none (.t 77)⟩, ⟨.some 79, .none, .lenL (.t 78)⟩, ⟨.some 80, .none, .mv (.c (.int .i64 0))⟩]) (.block 2 (.loop (.seq (.rg false [⟨.some 81, .none, .bin .lss (.t 80) (.t 79)⟩]) (.seq (.cond (.t 81) .skip (.exit 2)) (.seq (.block 3 (.seq (.rg false [⟨.some 82, .none, .mv (.t 80)⟩, ⟨.some 6, .none, .mv (.t 82)⟩]) (.seq (.rg true [⟨.some 83, .none, .fa 8 (.t 2)⟩, ⟨.some 84, .none, .ld .none (.t 83)⟩, ⟨.some 85, .none, .mv (.t 6)⟩, ⟨.some 86, .none, .ia 9 (.t 84) (.t 85)⟩, ⟨.some 87, .none, .ld (.some 9) (.t 86)⟩, ⟨.some 88, .none, .fa 8 (.t 3)⟩, ⟨.some 89, .none, .ld .none (.t 88)⟩, ⟨.some 90, .none, .mv (.t 6)⟩, ⟨.some 91, .none, .ia 9 (.t 89) (.t 90)⟩, ⟨.some 92, .none, .ld (.some 9) (.t 91)⟩, ⟨.some 93, .none, .call 300 .strict [.t 87, .t 92]⟩, ⟨.some 94, .none, .un .not (.t 93)⟩]) (.cond (.t 94) (.seq (.rg false [⟨.some 4, .none, .mv (.c (.bool false))⟩]) .ret) .skip)))) (.rg false [⟨.some 95, .none, .bin .add (.t 80) (.c (.int .i64 1))⟩, ⟨.some 80, .none, .mv (.t 95)⟩]))))))) (.seq (.rg false [⟨.some 96, .none, .fa 2 (.t 2)⟩, ⟨.some 97, .none, .ld .none (.t 96)⟩, ⟨.some 98, .none, .fa 2 (.t 3)⟩, ⟨.some 99, .none, .ld .none (.t 98)⟩, ⟨.some 100, .none, .call 36 .pure [.t 97, .t 99]⟩, ⟨.some 101, .none, .mv (.t 100)⟩, ⟨.some 102, .some (101, true), .fa 6 (.t 2)⟩, ⟨.some 103, .some (101, true), .ld .none (.t 102)⟩, ⟨.some 104, .some (101, true), .fa 6 (.t 3)⟩, ⟨.some 105, .some (101, true), .ld .none (.t 104)⟩, ⟨.some 106, .some (101, true), .call 36 .pure [.t 103, .t 105]⟩, ⟨.some 107, .none, .pick (.t 101) (.t 106) (.c (.bool false))⟩, ⟨.some 4, .none, .mv (.t 107)⟩]) .ret))))))
def lkd : List (Nat × Def) := [(293, d293), (294, d294)]
def lke : List (Nat × Def) := [(297, d297)]
def lkf : List (Nat × Def) := [(309, d309), (300, d300)]
theorem d293_eq : d293 = d108 := rfl
section
variable {env : Nat → Option Def} {fr : Fr} {σ σ' σ'' : St} {K : Fr → St → Prop} {Q : X → Fr → St → Prop} {p : PV} {bs : List UInt8}
theorem a293 (D : Has lkd env) {l : List Lab} (hn : l.length ≤ 9223372036854775807) : AV env 293 [.sl (labs l)] = some (.sl (labs (fewL l))) := few_g (by rw [← d293_eq]; exact D (293, d293) (by simp [lkd])) hn
theorem a294 (D : Has lkd env) : ∀ (r : Rt), r.Held → ∀ m : Nat, m ≤ 1000000 → AV env 294 [rt r, .sc (.int .i64 (m : Int))] = some (.sc (.int .i64 ((min (cntR r) (m + 1) : Nat) : Int))) := by
  refine Rt.induct fun h ks ih => ?_
  intro hr m hm
  obtain ⟨_, _, hh, hkl, hkh⟩ := hr
  have hkl' := rts_len ks
  refine AV_wp (D (294, d294) (by simp [lkd])) rfl ?_
  rw [rt]
  unfold rhd
  (repeat' first
    | refine w_seq ?_ | refine w_rg ?_ | refine wo_nil ?_ | refine g_skU ?_ | refine g_skT ?_ | refine g_skF ?_
    | ((first | apply s_plain | apply s_void | apply s_guard | apply g_goT | apply g_goF); · simp only [go_sem, Nat.reduceEqDiff, Nat.reduceAdd, Nat.reduceLeDiff, hkl']; (first | done | rfl))
    | ((first | apply g_T | apply g_F | apply g_gT | apply g_gF); · intro q1_; (first | intro q2_ | have q2_ := q1_); simp only [go_sem, Nat.reduceEqDiff, Nat.reduceAdd, Nat.reduceLeDiff, hkl', q1_, q2_]; (first | done | rfl))
    | fail
    )
  refine w_cutB (fun fr σ => fr 5 = .sc (.int .i64 ((min (cntR (.mk h ks)) (m + 1) : Nat) : Int))) ?_ ?_
  · refine w_rangeF ks.length hkl (fun i fr σ => fr 5 = .sc (.int .i64 ((min (1 + cntL (ks.take i)) (m + 1) : Nat) : Int))) ⟨by decide, rfl, rfl⟩ ?_ ?_ (by simp only [go_sem, Nat.reduceEqDiff, Nat.reduceAdd, Nat.reduceLeDiff]; first | done | rfl) (by simp only [go_sem, Nat.reduceEqDiff, Nat.reduceAdd, Nat.reduceLeDiff, hkl']; first | done | rfl) ?_ ?_
    · rintro i fr1 σ1 v h5
      refine ⟨?_, ?_, ?_⟩ <;> simp only [go_sem, Nat.reduceEqDiff, Nat.reduceAdd, Nat.reduceLeDiff, h5]
    · have : min (1 + cntL (ks.take 0)) (m + 1) = 1 := by rw [List.take_zero, cntL]; omega
      rw [this]
      simp only [go_sem, Nat.reduceEqDiff, Nat.reduceAdd, Nat.reduceLeDiff]
      rfl
    · rintro i fr1 σ1 hi h5 hti hfr
      have f0_1 := hfr 1 rfl; have f0_9 := hfr 9 rfl; have f0_10 := hfr 10 rfl; try (simp only [go_sem, Nat.reduceEqDiff, Nat.reduceAdd, Nat.reduceLeDiff] at f0_1); try (simp only [go_sem, Nat.reduceEqDiff, Nat.reduceAdd, Nat.reduceLeDiff] at f0_9); try (simp only [go_sem, Nat.reduceEqDiff, Nat.reduceAdd, Nat.reduceLeDiff] at f0_10)
      have hx := List.getElem?_eq_getElem hi
      have hy := rts_at hx
      rw [rt_eq] at hy
      have e1 : (0 : Int) ≤ (i : Int) ∧ (i : Int) < (ks.length : Int) := by omega
      have hcnt0 := cntL_take hi
      have hcnt1 := cntL_take_le ks (i + 1)
      have hrec := ih _ (List.getElem_mem hi) (hkh _ (List.getElem_mem hi))
      generalize ks[i] = k at hx hy hcnt0 hrec
      unfold rhd at hy
      refine w_block ?_
      (repeat' first
    | refine w_seq ?_ | refine w_rg ?_ | refine wo_nil ?_ | refine g_skU ?_ | refine g_skT ?_ | refine g_skF ?_
    | ((first | apply s_plain | apply s_void | apply s_guard | apply g_goT | apply g_goF); · simp only [go_sem, Nat.reduceEqDiff, Nat.reduceAdd, Nat.reduceLeDiff, f0_1, f0_9, f0_10, hti, e1, hkl', Int.toNat_natCast, hy, h5, List.set_cons_succ]; (first | done | rfl))
    | ((first | apply g_T | apply g_F | apply g_gT | apply g_gF); · intro q1_; (first | intro q2_ | have q2_ := q1_); simp only [go_sem, Nat.reduceEqDiff, Nat.reduceAdd, Nat.reduceLeDiff, f0_1, f0_9, f0_10, hti, e1, hkl', Int.toNat_natCast, hy, h5, List.set_cons_succ, q1_, q2_]; (first | done | rfl))
    | fail
    )
      refine w_condB (by simp only [go_sem, Nat.reduceEqDiff, Nat.reduceAdd, Nat.reduceLeDiff]; first | done | rfl) (fun hc => ?_) (fun hc => ?_)
      · have hc' : m + 1 ≤ 1 + cntL (ks.take i) := by
          rw [decide_eq_true_eq] at hc
          omega
        (repeat' first
    | refine w_seq ?_ | refine w_rg ?_ | refine wo_nil ?_ | refine g_skU ?_ | refine g_skT ?_ | refine g_skF ?_
    | ((first | apply s_plain | apply s_void | apply s_guard | apply g_goT | apply g_goF); · simp only [go_sem, Nat.reduceEqDiff, Nat.reduceAdd, Nat.reduceLeDiff]; (first | done | rfl))
    | ((first | apply g_T | apply g_F | apply g_gT | apply g_gF); · intro q1_; (first | intro q2_ | have q2_ := q1_); simp only [go_sem, Nat.reduceEqDiff, Nat.reduceAdd, Nat.reduceLeDiff, q1_, q2_]; (first | done | rfl))
    | (apply w_condX; · simp only [go_sem, Nat.reduceEqDiff, Nat.reduceAdd, Nat.reduceLeDiff]; (first | done | rfl)); (first | refine wcd_T ?_ | refine wcd_F ?_)
    | refine w_skip ?_ | refine w_exit ?_ | refine w_ret ?_
    | fail
    )
        try simp only [if_true]
        simp only [go_sem, Nat.reduceEqDiff, Nat.reduceAdd, Nat.reduceLeDiff, h5]
        rw [cntR_mk, show min (1 + cntL (ks.take i)) (m + 1) = min (1 + cntL ks) (m + 1) by have := cntL_take_le ks i; omega]
      · have hc' : 1 + cntL (ks.take i) ≤ m := by
          rw [decide_eq_false_iff_not] at hc
          omega
        have e2 : min (1 + cntL (ks.take i)) (m + 1) = 1 + cntL (ks.take i) := by omega
        rw [e2] at h5
        have hrec := hrec (m - (1 + cntL (ks.take i))) (by omega)
        have e3 : IntKind.i64.wrap ((m : Int) - ((1 + cntL (ks.take i) : Nat) : Int)) = ((m - (1 + cntL (ks.take i)) : Nat) : Int) := by rw [IntKind.wrap_i64]; omega
        have e4 : IntKind.i64.wrap (((1 + cntL (ks.take i) : Nat) : Int) + ((min (cntR k) (m - (1 + cntL (ks.take i)) + 1) : Nat) : Int)) = ((min (1 + cntL (ks.take (i + 1))) (m + 1) : Nat) : Int) := by rw [IntKind.wrap_i64]; omega
        rw [rt_eq] at hrec
        unfold rhd at hrec
        (repeat' first
    | refine w_seq ?_ | refine w_rg ?_ | refine wo_nil ?_ | refine g_skU ?_ | refine g_skT ?_ | refine g_skF ?_
    | ((first | apply s_plain | apply s_void | apply s_guard | apply g_goT | apply g_goF); · simp only [go_sem, Nat.reduceEqDiff, Nat.reduceAdd, Nat.reduceLeDiff, f0_1, f0_9, f0_10, h5, e3, hrec, e4, List.set_cons_succ]; (first | done | rfl))
    | ((first | apply g_T | apply g_F | apply g_gT | apply g_gF); · intro q1_; (first | intro q2_ | have q2_ := q1_); simp only [go_sem, Nat.reduceEqDiff, Nat.reduceAdd, Nat.reduceLeDiff, f0_1, f0_9, f0_10, h5, e3, hrec, e4, List.set_cons_succ, q1_, q2_]; (first | done | rfl))
    | (apply w_condX; · simp only [go_sem, Nat.reduceEqDiff, Nat.reduceAdd, Nat.reduceLeDiff, f0_1, f0_9, f0_10, h5, e3, hrec, e4, List.set_cons_succ]; (first | done | rfl)); (first | refine wcd_T ?_ | refine wcd_F ?_)
    | refine w_skip ?_ | refine w_exit ?_ | refine w_ret ?_
    | fail
    )
        try simp only [if_true]
        simp only [go_sem, Nat.reduceEqDiff, Nat.reduceAdd, Nat.reduceLeDiff]
    · rintro fr1 σ1 h5 hfr
      have e0_4 := hfr 4 rfl; try (simp only [go_sem, Nat.reduceEqDiff, Nat.reduceAdd, Nat.reduceLeDiff] at e0_4)
      try simp only [if_true]
      rw [List.take_length] at h5
      rw [cntR_mk]
      exact h5
  · rintro fr1 σ1 h5
    (repeat' first
    | refine w_seq ?_ | refine w_rg ?_ | refine wo_nil ?_ | refine g_skU ?_ | refine g_skT ?_ | refine g_skF ?_
    | ((first | apply s_plain | apply s_void | apply s_guard | apply g_goT | apply g_goF); · simp only [go_sem, Nat.reduceEqDiff, Nat.reduceAdd, Nat.reduceLeDiff, h5]; (first | done | rfl))
    | ((first | apply g_T | apply g_F | apply g_gT | apply g_gF); · intro q1_; (first | intro q2_ | have q2_ := q1_); simp only [go_sem, Nat.reduceEqDiff, Nat.reduceAdd, Nat.reduceLeDiff, h5, q1_, q2_]; (first | done | rfl))
    | (apply w_condX; · simp only [go_sem, Nat.reduceEqDiff, Nat.reduceAdd, Nat.reduceLeDiff, h5]; (first | done | rfl)); (first | refine wcd_T ?_ | refine wcd_F ?_)
    | refine w_skip ?_ | refine w_exit ?_ | refine w_ret ?_
    | fail
    )
    exact ⟨by first | exact .inr rfl | exact .inr trivial | exact .inl rfl, by simp only [go_sem, Nat.reduceEqDiff, Nat.reduceAdd, Nat.reduceLeDiff, retOf, resOf]; first | done | rfl⟩
theorem rts_fz (σ : St) (d : Nat) (l : List Rt) : (rts l).mapM (fz σ (d + 2)) = some (rts l) := by
  induction l with
  | nil => rfl
  | cons m r ih =>
    rw [rts, mapM_cons', ih, rt_eq]
    rfl
theorem rts_all (l : List Rt) : ((rts l).all fun y => okc y && (cellsOf y).length == 9) = true := by
  rw [rts_map, List.all_eq_true]
  intro y hy
  obtain ⟨r, _, rfl⟩ := List.mem_map.1 hy
  rw [rt_eq]
  rfl
theorem rts_append (a b : List Rt) : rts (a ++ b) = rts a ++ rts b := by rw [rts_map, rts_map, rts_map, List.map_append]
end

section
variable {env : Nat → Option Def} {fr : Fr} {σ σ' σ'' : St} {K : Fr → St → Prop} {Q : X → Fr → St → Prop} {p : PV} {bs : List UInt8}
theorem a309 (D : Has lhd env) (F : Has lkf env) {a b : Mt} (hn : a.ws.length ≤ 9223372036854775807) : AV env 309 [mt a, mt b] = some (.sc (.bool (decide (a = b)))) := by
  have h36 := a36 D (a := a.ws) (b := b.ws) hn
  refine AV_wp (F (309, d309) (by simp [lkf])) rfl ?_
  unfold mt
  (repeat' first
    | refine w_seq ?_ | refine w_rg ?_ | refine wo_nil ?_ | refine g_skU ?_ | refine g_skT ?_ | refine g_skF ?_
    | ((first | apply s_plain | apply s_void | apply s_guard | apply g_goT | apply g_goF); · simp only [go_sem, Nat.reduceEqDiff, Nat.reduceAdd, Nat.reduceLeDiff, h36, ba_beq]; (first | done | rfl))
    | ((first | apply g_T | apply g_F | apply g_gT | apply g_gF); · intro q1_; (first | intro q2_ | have q2_ := q1_); simp only [go_sem, Nat.reduceEqDiff, Nat.reduceAdd, Nat.reduceLeDiff, h36, ba_beq, q1_, q2_]; (first | done | rfl))
    | (apply w_condX; · simp only [go_sem, Nat.reduceEqDiff, Nat.reduceAdd, Nat.reduceLeDiff, h36, ba_beq]; (first | done | rfl)); (first | refine wcd_T ?_ | refine wcd_F ?_)
    | refine w_skip ?_ | refine w_exit ?_ | refine w_ret ?_
    | fail
    )
  have e : decide (a = b) = ((decide (a.n = b.n) && (a.how == b.how)) && decide (a.ws = b.ws)) := by
    obtain ⟨n, how, ws⟩ := a
    obtain ⟨n', how', ws'⟩ := b
    rw [Bool.eq_iff_iff]
    simp only [decide_eq_true_eq, Bool.and_eq_true, beq_iff_eq, Mt.mk.injEq]
    exact ⟨fun ⟨x, y, z⟩ => ⟨⟨x, y⟩, z⟩, fun ⟨⟨x, y⟩, z⟩ => ⟨x, y, z⟩⟩
  exact ⟨by first | exact .inr rfl | exact .inr trivial | exact .inl rfl, by simp only [go_sem, Nat.reduceEqDiff, Nat.reduceAdd, Nat.reduceLeDiff, retOf, resOf, e]; first | done | rfl⟩
theorem likeT_mk (h h' : Rh) (ks ks' : List Rt) : likeT (.mk h ks) (.mk h' ks') = (decide (h = h') && likeLs ks ks') := by rw [likeT]
theorem a300 (D : Has lhd env) (F : Has lkf env) : ∀ (a : Rt), a.Held → ∀ b : Rt, AV env 300 [rt a, rt b] = some (.sc (.bool (likeT a b))) := by
  refine Rt.induct fun h ks ih => ?_
  intro hr b
  obtain ⟨_, _, hh, hkl, hkh⟩ := hr
  obtain ⟨h', ks'⟩ := b
  rw [likeT_mk]
  have hk1 := rts_len ks
  have hk2 := rts_len ks'
  have hm1 := mts_len h.ms
  have hm2 := mts_len h'.ms
  have h36a := a36 D (a := h.bys) (b := h'.bys) hh.bys
  have h36b := a36 D (a := h.mute) (b := h'.mute) hh.mute
  refine AV_wp (F (300, d300) (by simp [lkf])) rfl ?_
  rw [rt, rt]
  unfold rhd
  (repeat' first
    | refine w_seq ?_ | refine w_rg ?_ | refine wo_nil ?_ | refine g_skU ?_ | refine g_skT ?_ | refine g_skF ?_
    | ((first | apply s_plain | apply s_void | apply s_guard | apply g_goT | apply g_goF); · simp only [go_sem, Nat.reduceEqDiff, Nat.reduceAdd, Nat.reduceLeDiff, hk1, hk2, hm1, hm2]; (first | done | rfl))
    | ((first | apply g_T | apply g_F | apply g_gT | apply g_gF); · intro q1_; (first | intro q2_ | have q2_ := q1_); simp only [go_sem, Nat.reduceEqDiff, Nat.reduceAdd, Nat.reduceLeDiff, hk1, hk2, hm1, hm2, q1_, q2_]; (first | done | rfl))
    | fail
    )
  refine w_condB (by simp only [go_sem, Nat.reduceEqDiff, Nat.reduceAdd, Nat.reduceLeDiff]; first | done | rfl) (fun hc => ?_) (fun hc => ?_)
  · have hf : (decide (h = h') && likeLs ks ks') = false := by
      cases he : (decide (h = h') && likeLs ks ks') with
      | false => rfl
      | true =>
        rw [Bool.and_eq_true, decide_eq_true_eq] at he
        obtain ⟨rfl, he⟩ := he
        have hl : ks.length = ks'.length := Decidable.byContradiction fun hne => by rw [likeLs_len _ _ hne] at he; cases he
        rw [hl] at hc
        simp at hc
    rw [hf]
    (repeat' first
    | refine w_seq ?_ | refine w_rg ?_ | refine wo_nil ?_ | refine g_skU ?_ | refine g_skT ?_ | refine g_skF ?_
    | ((first | apply s_plain | apply s_void | apply s_guard | apply g_goT | apply g_goF); · simp only [go_sem, Nat.reduceEqDiff, Nat.reduceAdd, Nat.reduceLeDiff]; (first | done | rfl))
    | ((first | apply g_T | apply g_F | apply g_gT | apply g_gF); · intro q1_; (first | intro q2_ | have q2_ := q1_); simp only [go_sem, Nat.reduceEqDiff, Nat.reduceAdd, Nat.reduceLeDiff, q1_, q2_]; (first | done | rfl))
    | (apply w_condX; · simp only [go_sem, Nat.reduceEqDiff, Nat.reduceAdd, Nat.reduceLeDiff]; (first | done | rfl)); (first | refine wcd_T ?_ | refine wcd_F ?_)
    | refine w_skip ?_ | refine w_exit ?_ | refine w_ret ?_
    | fail
    )
    exact ⟨by first | exact .inr rfl | exact .inr trivial | exact .inl rfl, by simp only [go_sem, Nat.reduceEqDiff, Nat.reduceAdd, Nat.reduceLeDiff, retOf, resOf]; first | done | rfl⟩
  · simp [ba_beq] at hc
    obtain ⟨⟨⟨⟨⟨⟨c1, c2⟩, c3⟩, c4⟩, c5⟩, c6⟩, c7⟩ := hc
    have c6' : h.ms.length = h'.ms.length := by omega
    have c7' : ks.length = ks'.length := by omega
    have hh0 : decide (h = h') = (decide (h.ms = h'.ms) && (decide (h.bys = h'.bys) && decide (h.mute = h'.mute))) := by
      obtain ⟨r1, m1, b1, w1, e1, p1, u1, o1⟩ := h
      obtain ⟨r2, m2, b2, w2, e2, p2, u2, o2⟩ := h'
      simp only at c1 c2 c3 c4 c5
      rw [Bool.eq_iff_iff]
      simp only [decide_eq_true_eq, Bool.and_eq_true, Rh.mk.injEq, c1, c2, c3, c4, c5, true_and, and_true]
    rw [hh0]
    (repeat' first
    | refine w_seq ?_ | refine w_rg ?_ | refine wo_nil ?_ | refine g_skU ?_ | refine g_skT ?_ | refine g_skF ?_
    | ((first | apply s_plain | apply s_void | apply s_guard | apply g_goT | apply g_goF); · simp only [go_sem, Nat.reduceEqDiff, Nat.reduceAdd, Nat.reduceLeDiff, hm1]; (first | done | rfl))
    | ((first | apply g_T | apply g_F | apply g_gT | apply g_gF); · intro q1_; (first | intro q2_ | have q2_ := q1_); simp only [go_sem, Nat.reduceEqDiff, Nat.reduceAdd, Nat.reduceLeDiff, hm1, q1_, q2_]; (first | done | rfl))
    | (apply w_condX; · simp only [go_sem, Nat.reduceEqDiff, Nat.reduceAdd, Nat.reduceLeDiff, hm1]; (first | done | rfl)); (first | refine wcd_T ?_ | refine wcd_F ?_)
    | refine w_skip ?_ | refine w_exit ?_ | refine w_ret ?_
    | fail
    )
    refine w_block (w_rangeF h.ms.length hh.ms (fun i fr σ => (σ.m 2000002 0 = some ⟨9, [rhd h (.sl (rts ks))], true, true⟩ ∧ σ.m 2000003 0 = some ⟨9, [rhd h' (.sl (rts ks'))], true, true⟩) ∧ ∀ j, j < i → h.ms[j]? = h'.ms[j]?) ⟨by decide, rfl, rfl⟩ (fun _ _ _ _ h => ⟨h, h, h⟩) ⟨⟨by simp only [go_sem, Nat.reduceEqDiff, Nat.reduceAdd, Nat.reduceLeDiff, rhd], by simp only [go_sem, Nat.reduceEqDiff, Nat.reduceAdd, Nat.reduceLeDiff, rhd]⟩, fun j hj => by omega⟩ (by simp only [go_sem, Nat.reduceEqDiff, Nat.reduceAdd, Nat.reduceLeDiff]; first | done | rfl) (by simp only [go_sem, Nat.reduceEqDiff, Nat.reduceAdd, Nat.reduceLeDiff, hm1]; first | done | rfl) ?_ ?_)
    · rintro i fr1 σ1 hi ⟨⟨x2, x3⟩, h3⟩ hti hfr
      have f0_2 := hfr 2 rfl; have f0_3 := hfr 3 rfl; have f0_60 := hfr 60 rfl; try (simp only [go_sem, Nat.reduceEqDiff, Nat.reduceAdd, Nat.reduceLeDiff] at f0_2); try (simp only [go_sem, Nat.reduceEqDiff, Nat.reduceAdd, Nat.reduceLeDiff] at f0_3); try (simp only [go_sem, Nat.reduceEqDiff, Nat.reduceAdd, Nat.reduceLeDiff] at f0_60)
      have hi2 : i < h'.ms.length := by omega
      have qa := List.getElem?_eq_getElem hi
      have qb := List.getElem?_eq_getElem hi2
      have hx := mts_at qa
      have hy := mts_at qb
      have e1 : (0 : Int) ≤ (i : Int) ∧ (i : Int) < (h.ms.length : Int) := by omega
      have e2 : (0 : Int) ≤ (i : Int) ∧ (i : Int) < (h'.ms.length : Int) := by omega
      have hmh := hh.mss _ (List.getElem_mem hi)
      have h309 := a309 D F (a := h.ms[i]) (b := h'.ms[i]) hmh.ws
      unfold mt at hx hy h309
      unfold rhd at x2 x3
      refine w_block ?_
      (repeat' first
    | refine w_seq ?_ | refine w_rg ?_ | refine wo_nil ?_ | refine g_skU ?_ | refine g_skT ?_ | refine g_skF ?_
    | ((first | apply s_plain | apply s_void | apply s_guard | apply g_goT | apply g_goF); · simp only [go_sem, Nat.reduceEqDiff, Nat.reduceAdd, Nat.reduceLeDiff, f0_2, f0_3, f0_60, hti, e1, e2, hm1, hm2, Int.toNat_natCast, hx, hy, x2, x3, h309]; (first | done | rfl))
    | ((first | apply g_T | apply g_F | apply g_gT | apply g_gF); · intro q1_; (first | intro q2_ | have q2_ := q1_); simp only [go_sem, Nat.reduceEqDiff, Nat.reduceAdd, Nat.reduceLeDiff, f0_2, f0_3, f0_60, hti, e1, e2, hm1, hm2, Int.toNat_natCast, hx, hy, x2, x3, h309, q1_, q2_]; (first | done | rfl))
    | fail
    )
      by_cases he : h.ms[i] = h'.ms[i]
      · have hb : decide (h.ms[i] = h'.ms[i]) = true := decide_eq_true he
        (repeat' first
    | refine w_seq ?_ | refine w_rg ?_ | refine wo_nil ?_ | refine g_skU ?_ | refine g_skT ?_ | refine g_skF ?_
    | ((first | apply s_plain | apply s_void | apply s_guard | apply g_goT | apply g_goF); · simp only [go_sem, Nat.reduceEqDiff, Nat.reduceAdd, Nat.reduceLeDiff, hb]; (first | done | rfl))
    | ((first | apply g_T | apply g_F | apply g_gT | apply g_gF); · intro q1_; (first | intro q2_ | have q2_ := q1_); simp only [go_sem, Nat.reduceEqDiff, Nat.reduceAdd, Nat.reduceLeDiff, hb, q1_, q2_]; (first | done | rfl))
    | (apply w_condX; · simp only [go_sem, Nat.reduceEqDiff, Nat.reduceAdd, Nat.reduceLeDiff, hb]; (first | done | rfl)); (first | refine wcd_T ?_ | refine wcd_F ?_)
    | refine w_skip ?_ | refine w_exit ?_ | refine w_ret ?_
    | fail
    )
        refine ⟨⟨by unfold rhd; exact x2, by unfold rhd; exact x3⟩, fun j hj => ?_⟩
        by_cases hji : j = i
        · rw [hji, qa, qb, he]
        · exact h3 j (by omega)
      · have hb : decide (h.ms[i] = h'.ms[i]) = false := decide_eq_false he
        have hne : decide (h.ms = h'.ms) = false := decide_eq_false fun hh => he (by simp [hh])
        rw [hne]
        (repeat' first
    | refine w_seq ?_ | refine w_rg ?_ | refine wo_nil ?_ | refine g_skU ?_ | refine g_skT ?_ | refine g_skF ?_
    | ((first | apply s_plain | apply s_void | apply s_guard | apply g_goT | apply g_goF); · simp only [go_sem, Nat.reduceEqDiff, Nat.reduceAdd, Nat.reduceLeDiff, hb]; (first | done | rfl))
    | ((first | apply g_T | apply g_F | apply g_gT | apply g_gF); · intro q1_; (first | intro q2_ | have q2_ := q1_); simp only [go_sem, Nat.reduceEqDiff, Nat.reduceAdd, Nat.reduceLeDiff, hb, q1_, q2_]; (first | done | rfl))
    | (apply w_condX; · simp only [go_sem, Nat.reduceEqDiff, Nat.reduceAdd, Nat.reduceLeDiff, hb]; (first | done | rfl)); (first | refine wcd_T ?_ | refine wcd_F ?_)
    | refine w_skip ?_ | refine w_exit ?_ | refine w_ret ?_
    | fail
    )
        exact ⟨by first | exact .inr rfl | exact .inr trivial | exact .inl rfl, by simp only [go_sem, Nat.reduceEqDiff, Nat.reduceAdd, Nat.reduceLeDiff, retOf, resOf, Bool.false_and]; first | done | rfl⟩
    · rintro fr1 σ1 ⟨⟨x2, x3⟩, h3⟩ hfr
      have e0_2 := hfr 2 rfl; have e0_3 := hfr 3 rfl; try (simp only [go_sem, Nat.reduceEqDiff, Nat.reduceAdd, Nat.reduceLeDiff] at e0_2); try (simp only [go_sem, Nat.reduceEqDiff, Nat.reduceAdd, Nat.reduceLeDiff] at e0_3)
      try simp only [if_true]
      have heq : h.ms = h'.ms := List.ext_getElem? fun i => by
        by_cases hi : i < h.ms.length
        · exact h3 i hi
        · rw [List.getElem?_eq_none (by omega), List.getElem?_eq_none (by omega)]
      rw [decide_eq_true heq, Bool.true_and]
      unfold rhd at x2
      (repeat' first
    | refine w_seq ?_ | refine w_rg ?_ | refine wo_nil ?_ | refine g_skU ?_ | refine g_skT ?_ | refine g_skF ?_
    | ((first | apply s_plain | apply s_void | apply s_guard | apply g_goT | apply g_goF); · simp only [go_sem, Nat.reduceEqDiff, Nat.reduceAdd, Nat.reduceLeDiff, e0_2, e0_3, x2, hk1]; (first | done | rfl))
    | ((first | apply g_T | apply g_F | apply g_gT | apply g_gF); · intro q1_; (first | intro q2_ | have q2_ := q1_); simp only [go_sem, Nat.reduceEqDiff, Nat.reduceAdd, Nat.reduceLeDiff, e0_2, e0_3, x2, hk1, q1_, q2_]; (first | done | rfl))
    | (apply w_condX; · simp only [go_sem, Nat.reduceEqDiff, Nat.reduceAdd, Nat.reduceLeDiff, e0_2, e0_3, x2, hk1]; (first | done | rfl)); (first | refine wcd_T ?_ | refine wcd_F ?_)
    | refine w_skip ?_ | refine w_exit ?_ | refine w_ret ?_
    | fail
    )
      refine w_block (w_rangeF ks.length hkl (fun i fr σ => (σ.m 2000002 0 = some ⟨9, [rhd h (.sl (rts ks))], true, true⟩ ∧ σ.m 2000003 0 = some ⟨9, [rhd h' (.sl (rts ks'))], true, true⟩) ∧ ∀ j (q1 : j < ks.length) (q2 : j < ks'.length), j < i → likeT ks[j] ks'[j] = true) ⟨by decide, rfl, rfl⟩ (fun _ _ _ _ h => ⟨h, h, h⟩) ⟨⟨by unfold rhd; exact x2, x3⟩, fun j _ _ hj => by omega⟩ (by simp only [go_sem, Nat.reduceEqDiff, Nat.reduceAdd, Nat.reduceLeDiff]; first | done | rfl) (by simp only [go_sem, Nat.reduceEqDiff, Nat.reduceAdd, Nat.reduceLeDiff, hk1]; first | done | rfl) ?_ ?_)
      · rintro i fr2 σ2 hi ⟨⟨x2, x3⟩, h4⟩ hti hfr
        have f1_2 := hfr 2 rfl; have f1_3 := hfr 3 rfl; have f1_79 := hfr 79 rfl; try (simp only [go_sem, Nat.reduceEqDiff, Nat.reduceAdd, Nat.reduceLeDiff, e0_2, e0_3] at f1_2); try (simp only [go_sem, Nat.reduceEqDiff, Nat.reduceAdd, Nat.reduceLeDiff, e0_2, e0_3] at f1_3); try (simp only [go_sem, Nat.reduceEqDiff, Nat.reduceAdd, Nat.reduceLeDiff, e0_2, e0_3] at f1_79)
        have hi2 : i < ks'.length := by omega
        have qa := List.getElem?_eq_getElem hi
        have qb := List.getElem?_eq_getElem hi2
        have hx := rts_at qa
        have hy := rts_at qb
        have e1 : (0 : Int) ≤ (i : Int) ∧ (i : Int) < (ks.length : Int) := by omega
        have e2 : (0 : Int) ≤ (i : Int) ∧ (i : Int) < (ks'.length : Int) := by omega
        have hrec := ih _ (List.getElem_mem hi) (hkh _ (List.getElem_mem hi)) ks'[i]
        rw [rt_eq] at hx hy
        rw [rt_eq, rt_eq] at hrec
        unfold rhd at hx hy hrec x2 x3
        refine w_block ?_
        (repeat' first
    | refine w_seq ?_ | refine w_rg ?_ | refine wo_nil ?_ | refine g_skU ?_ | refine g_skT ?_ | refine g_skF ?_
    | ((first | apply s_plain | apply s_void | apply s_guard | apply g_goT | apply g_goF); · simp only [go_sem, Nat.reduceEqDiff, Nat.reduceAdd, Nat.reduceLeDiff, f1_2, f1_3, f1_79, hti, e1, e2, hk1, hk2, Int.toNat_natCast, hx, hy, x2, x3, hrec]; (first | done | rfl))
    | ((first | apply g_T | apply g_F | apply g_gT | apply g_gF); · intro q1_; (first | intro q2_ | have q2_ := q1_); simp only [go_sem, Nat.reduceEqDiff, Nat.reduceAdd, Nat.reduceLeDiff, f1_2, f1_3, f1_79, hti, e1, e2, hk1, hk2, Int.toNat_natCast, hx, hy, x2, x3, hrec, q1_, q2_]; (first | done | rfl))
    | fail
    )
        cases hb : likeT ks[i] ks'[i] with
        | true =>
          (repeat' first
    | refine w_seq ?_ | refine w_rg ?_ | refine wo_nil ?_ | refine g_skU ?_ | refine g_skT ?_ | refine g_skF ?_
    | ((first | apply s_plain | apply s_void | apply s_guard | apply g_goT | apply g_goF); · simp only [go_sem, Nat.reduceEqDiff, Nat.reduceAdd, Nat.reduceLeDiff, hb]; (first | done | rfl))
    | ((first | apply g_T | apply g_F | apply g_gT | apply g_gF); · intro q1_; (first | intro q2_ | have q2_ := q1_); simp only [go_sem, Nat.reduceEqDiff, Nat.reduceAdd, Nat.reduceLeDiff, hb, q1_, q2_]; (first | done | rfl))
    | (apply w_condX; · simp only [go_sem, Nat.reduceEqDiff, Nat.reduceAdd, Nat.reduceLeDiff, hb]; (first | done | rfl)); (first | refine wcd_T ?_ | refine wcd_F ?_)
    | refine w_skip ?_ | refine w_exit ?_ | refine w_ret ?_
    | fail
    )
          refine ⟨⟨by unfold rhd; exact x2, by unfold rhd; exact x3⟩, fun j q1 q2 hj => ?_⟩
          by_cases hji : j = i
          · subst hji; exact hb
          · exact h4 j q1 q2 (by omega)
        | false =>
          have hne : likeLs ks ks' = false := by
            cases hL : likeLs ks ks' with
            | false => rfl
            | true => rw [(likeLs_get _ _ c7').1 hL i hi hi2] at hb; cases hb
          rw [hne]
          (repeat' first
    | refine w_seq ?_ | refine w_rg ?_ | refine wo_nil ?_ | refine g_skU ?_ | refine g_skT ?_ | refine g_skF ?_
    | ((first | apply s_plain | apply s_void | apply s_guard | apply g_goT | apply g_goF); · simp only [go_sem, Nat.reduceEqDiff, Nat.reduceAdd, Nat.reduceLeDiff, hb]; (first | done | rfl))
    | ((first | apply g_T | apply g_F | apply g_gT | apply g_gF); · intro q1_; (first | intro q2_ | have q2_ := q1_); simp only [go_sem, Nat.reduceEqDiff, Nat.reduceAdd, Nat.reduceLeDiff, hb, q1_, q2_]; (first | done | rfl))
    | (apply w_condX; · simp only [go_sem, Nat.reduceEqDiff, Nat.reduceAdd, Nat.reduceLeDiff, hb]; (first | done | rfl)); (first | refine wcd_T ?_ | refine wcd_F ?_)
    | refine w_skip ?_ | refine w_exit ?_ | refine w_ret ?_
    | fail
    )
          exact ⟨by first | exact .inr rfl | exact .inr trivial | exact .inl rfl, by simp only [go_sem, Nat.reduceEqDiff, Nat.reduceAdd, Nat.reduceLeDiff, retOf, resOf, Bool.and_false]; first | done | rfl⟩
      · rintro fr2 σ2 ⟨⟨x2, x3⟩, h4⟩ hfr
        have e1_2 := hfr 2 rfl; have e1_3 := hfr 3 rfl; try (simp only [go_sem, Nat.reduceEqDiff, Nat.reduceAdd, Nat.reduceLeDiff, e0_2, e0_3] at e1_2); try (simp only [go_sem, Nat.reduceEqDiff, Nat.reduceAdd, Nat.reduceLeDiff, e0_2, e0_3] at e1_3)
        try simp only [if_true]
        have hL : likeLs ks ks' = true := (likeLs_get _ _ c7').2 fun i q1 q2 => h4 i q1 q2 q1
        rw [hL]
        unfold rhd at x2 x3
        (repeat' first
    | refine w_seq ?_ | refine w_rg ?_ | refine wo_nil ?_ | refine g_skU ?_ | refine g_skT ?_ | refine g_skF ?_
    | ((first | apply s_plain | apply s_void | apply s_guard | apply g_goT | apply g_goF); · simp only [go_sem, Nat.reduceEqDiff, Nat.reduceAdd, Nat.reduceLeDiff, e1_2, e1_3, x2, x3, h36a, h36b]; (first | done | rfl))
    | ((first | apply g_T | apply g_F | apply g_gT | apply g_gF); · intro q1_; (first | intro q2_ | have q2_ := q1_); simp only [go_sem, Nat.reduceEqDiff, Nat.reduceAdd, Nat.reduceLeDiff, e1_2, e1_3, x2, x3, h36a, h36b, q1_, q2_]; (first | done | rfl))
    | (apply w_condX; · simp only [go_sem, Nat.reduceEqDiff, Nat.reduceAdd, Nat.reduceLeDiff, e1_2, e1_3, x2, x3, h36a, h36b]; (first | done | rfl)); (first | refine wcd_T ?_ | refine wcd_F ?_)
    | refine w_skip ?_ | refine w_exit ?_ | refine w_ret ?_
    | fail
    )
        exact ⟨by first | exact .inr rfl | exact .inr trivial | exact .inl rfl, by simp only [go_sem, Nat.reduceEqDiff, Nat.reduceAdd, Nat.reduceLeDiff, retOf, resOf, Bool.and_true]; first | done | rfl⟩
end

end
section
abbrev byt (s : ByteArray) : List UInt8 := s.data.toList
theorem byt_inj {a b : ByteArray} (h : byt a = byt b) : a = b := ByteArray.ext (Array.toList_inj.1 h)
section
variable (l : List Lab)
theorem findL_all {P : ByteArray × Rh → Prop} (p : ByteArray) : ∀ (ks : List Rt) (i : Nat), (∀ (j : Nat) k, ks[j]? = some k → holdsA l k.h.ms = true → ∀ q ∈ findR l k (stepP p (i + j)), P q) → ∀ q ∈ findL l ks p i, P q
  | [], i, _, q, hq => by rw [findL_nil] at hq; simp at hq
  | k :: r, i, h, q, hq => by
    have hr := findL_all p r (i + 1) fun j x hx hh y hy => h (j + 1) x (by simpa using hx) hh y (by rw [show i + (j + 1) = i + 1 + j by omega]; exact hy)
    rw [findL_cons] at hq
    split at hq
    · rename_i hk
      rcases List.mem_append.1 hq with hq | hq
      · exact h 0 k rfl hk q hq
      · split at hq
        · exact hr q hq
        · simp at hq
    · exact hr q hq
theorem findR_held : ∀ (r : Rt), r.Held → ∀ (p : ByteArray), ∀ q ∈ findR l r p, q.2.Held := by
  refine Rt.induct fun h ks ih hr p => ?_
  obtain ⟨_, _, hh, _, hk⟩ := hr
  rw [findR_mk]
  split
  · exact findL_all l p ks 0 fun j k hj _ q hq => ih k (List.mem_of_getElem? hj) (hk k (List.mem_of_getElem? hj)) _ q hq
  · intro q hq
    simp only [List.mem_singleton] at hq
    subst hq
    exact hh
/-! No path twice. -/
end

end
section
attribute [local go_sem ↓] e_mv e_pick e_bin e_eqs e_beq e_un e_cvi e_str e_s2b e_b2s e_box e_build e_bsl e_ld e_st e_nck e_mkf e_slcS e_slcL e_fa e_fld e_ia e_iaa e_ix e_ixa e_ext e_lenS e_lenL e_mnmx e_app e_appb e_bbx e_msl e_clr e_call e_callv e_icall e_slcA e_mkm e_mput e_mget e_mlen e_mdel pa_t pa_c pa_f slcSP_str hiOf_some hiOf_none loOf_some loOf_none set_eq set_ne
attribute [local go_sem] pv pv1 simple frOf_0 frOf_1 frOf_2 frOf_3 frOf_4 frOf_5 ne_eq not_false_eq_true if_true Bool.false_eq_true if_false pbin punary Option.map_some Option.bind_some pick_and pick_or opt_true Bool.true_and Bool.and_self Bool.and_true Bool.true_or Bool.false_or Bool.not_true Bool.not_false callE pcall_eq List.map_cons List.map_nil List.append_nil List.nil_append List.cons_append mapM_cons' mapM_nil' dep_eq fz_sc fz_sl fz_em fz_fn fz_fp fz_agg fz_tu fz_bx fz_ob Nat.lt_irrefl Nat.zero_lt_one Nat.lt_add_one flat clL cl Bool.or_true okc_sc okc_em okc_sl okc_ob okc_bx okc_fp okc_fn okc_agg okc_ifc cells_agg cells_sc cells_sl cells_em cells_ob cells_fn cells_bx cells_fp List.length_cons List.length_nil Nat.zero_add and_self true_and and_true new_m new_c put_m put_c nil_m nil_c nil_mm new_mm put_mm newM_m newM_c newM_mm putM_m putM_c putM_mm mkeyV_1 mkeyV_2 mapAt_eq deref List.getElem?_cons_zero List.getElem?_cons_succ List.drop_zero List.drop_succ_cons List.take_succ_cons List.take_zero Nat.le_refl false_and and_false decide_true decide_false lenP_em lenP_nil lenP_sl lenP_ob Int.ofNat_zero splice fillP fillE List.modify_zero_cons List.replicate_succ List.replicate_zero List.set_cons_zero List.drop_zero ba_data ba_size ba_toList ba_extract ba_append List.toList_toArray
structure Rr9 (env : Nat → Option Def) : Prop where
  m : Mm4 env
  b : Has lkb env
  a : Has lha env
  f : Has lkc env
  d : Has lkd env
  e : Has lke env
  s : Has lhd env
  k : Has lkf env
  al : AV env 295 [] = some (.sc (.bool true))
section
variable (l : List Lab)
end
section
variable {env : Nat → Option Def} {fr : Fr} {σ σ' σ'' : St} {K : Fr → St → Prop} {Q : X → Fr → St → Prop} {p : PV} {bs : List UInt8}
end

end
section
section
variable (l : List Lab)
theorem findL_behind {k : Rt} (hk : holdsA l k.h.ms = false) (p : ByteArray) : ∀ (ks : List Rt) (i : Nat), findL l (ks ++ [k]) p i = findL l ks p i
  | [], i => by rw [List.nil_append, findL_cons, hk]; simp only [Bool.false_eq_true, if_false]; rw [findL_nil, findL_nil]
  | x :: r, i => by rw [List.cons_append, findL_cons, findL_cons, findL_behind hk p r (i + 1)]
theorem findR_behind {k : Rt} (hk : holdsA l k.h.ms = false) (h : Rh) (ks : List Rt) (p : ByteArray) : findR l (.mk h (ks ++ [k])) p = findR l (.mk h ks) p := by
  rw [findR_mk, findR_mk, List.any_append, List.any_cons, List.any_nil, hk, Bool.or_false, Bool.or_false, findL_behind l hk]
theorem findR_ahead {f : Rh} (hf : f.ms = []) (ho : f.on = false) (h : Rh) (ks : List Rt) (p : ByteArray) : findR l (.mk h (.mk f [] :: ks)) p = [(stepP p 0, f)] := by
  have h0 : holdsA l f.ms = true := by rw [hf]; rfl
  have e : (Rt.mk f []).h = f := rfl
  rw [findR_mk, List.any_cons, e, h0, Bool.true_or, if_pos rfl, findL_cons, e, h0, if_pos rfl, ho, findR_mk]
  simp
theorem headR_len {h : Rh} {a b : Nat} (ha : headR h a = true) (hb : b ≤ 16) : headR h b = true := by
  unfold headR at ha ⊢
  have e : decide ((b : Int) > 16) = false := by rw [decide_eq_false_iff_not]; omega
  rw [e]
  revert ha
  cases decide ((a : Int) > 16) <;> simp
theorem mayR_more {d : Nat} {h : Rh} {ks ks' : List Rt} (hm : mayR (d + 1) (.mk h ks) = true) (hl : ks'.length ≤ 16) (hk : ∀ k ∈ ks', k ∈ ks ∨ mayR d k = true) : mayR (d + 1) (.mk h ks') = true := by
  have e : ∀ x : List Rt, mayR (d + 1) (.mk h x) = (headR h x.length && x.all (mayR d)) := fun _ => rfl
  rw [e, Bool.and_eq_true] at hm
  rw [e, Bool.and_eq_true]
  refine ⟨headR_len hm.1 hl, List.all_eq_true.2 fun k hkm => ?_⟩
  rcases hk k hkm with h1 | h1
  · exact List.all_eq_true.1 hm.2 k h1
  · exact h1
end

end
section
attribute [local go_sem ↓] e_mv e_pick e_bin e_eqs e_beq e_un e_cvi e_str e_s2b e_b2s e_box e_build e_bsl e_ld e_st e_nck e_mkf e_slcS e_slcL e_fa e_fld e_ia e_iaa e_ix e_ixa e_ext e_lenS e_lenL e_mnmx e_app e_appb e_bbx e_msl e_clr e_call e_callv e_icall e_slcA e_mkm e_mput e_mget e_mlen e_mdel pa_t pa_c pa_f slcSP_str hiOf_some hiOf_none loOf_some loOf_none set_eq set_ne
attribute [local go_sem] pv pv1 simple frOf_0 frOf_1 frOf_2 frOf_3 frOf_4 frOf_5 ne_eq not_false_eq_true if_true Bool.false_eq_true if_false pbin punary Option.map_some Option.bind_some pick_and pick_or opt_true Bool.true_and Bool.and_self Bool.and_true Bool.true_or Bool.false_or Bool.not_true Bool.not_false callE pcall_eq List.map_cons List.map_nil List.append_nil List.nil_append List.cons_append mapM_cons' mapM_nil' dep_eq fz_sc fz_sl fz_em fz_fn fz_fp fz_agg fz_tu fz_bx fz_ob Nat.lt_irrefl Nat.zero_lt_one Nat.lt_add_one flat clL cl Bool.or_true okc_sc okc_em okc_sl okc_ob okc_bx okc_fp okc_fn okc_agg okc_ifc cells_agg cells_sc cells_sl cells_em cells_ob cells_fn cells_bx cells_fp List.length_cons List.length_nil Nat.zero_add and_self true_and and_true new_m new_c put_m put_c nil_m nil_c nil_mm new_mm put_mm newM_m newM_c newM_mm putM_m putM_c putM_mm mkeyV_1 mkeyV_2 mapAt_eq deref List.getElem?_cons_zero List.getElem?_cons_succ List.drop_zero List.drop_succ_cons List.take_succ_cons List.take_zero Nat.le_refl false_and and_false decide_true decide_false lenP_em lenP_nil lenP_sl lenP_ob Int.ofNat_zero splice fillP fillE List.modify_zero_cons List.replicate_succ List.replicate_zero List.set_cons_zero List.drop_zero ba_data ba_size ba_toList ba_extract ba_append List.toList_toArray
def d289 : Def := (.code 2 [.tmp 4] (.seq (.rg false [⟨.some 2, .none, .box (.t 0)⟩, ⟨.some 4, .none, .mv (.c (.bool false))⟩]) (.seq (.seq (.rg false [⟨.some 17, .none, .mv (.t 1)⟩, ⟨.some 18, .none, .call 293 .pure [.t 17]⟩, ⟨.some 1, .none, .mv (.t 18)⟩]) (.seq (.rg false [⟨.some 19, .none, .ld (.some 9) (.t 2)⟩, ⟨.some 20, .none, .call 294 .pure [.t 19, .c (.int .i64 40)]⟩, ⟨.some 21, .none, .bin .gtr (.t 20) (.c (.int .i64 40))⟩, ⟨.some 22, .none, .mv (.t 21)⟩, ⟨.some 23, .some (22, false), .fa 8 (.t 2)⟩, ⟨.some 24, .some (22, false), .ld .none (.t 23)⟩, ⟨.some 25, .some (22, false), .lenL (.t 24)⟩, ⟨.some 26, .some (22, false), .bin .gtr (.t 25) (.c (.int .i64 14))⟩, ⟨.some 27, .none, .pick (.t 22) (.c (.bool true)) (.t 26)⟩]) (.cond (.t 27) (.seq (.rg false [⟨.some 28, .none, .call 295 .pure []⟩, ⟨.some 4, .none, .mv (.t 28)⟩]) .ret) .skip))) (.seq (.rg false [⟨.some 30, .none, .ld (.some 9) (.t 2)⟩, ⟨.some 31, .none, .mv (.t 1)⟩, ⟨.some 32, .none, .call 296 .pure [.t 30, .t 31]⟩, ⟨.some 29, .none, .mv (.t 32)⟩, ⟨.some 33, .none, .ext (.t 29) 0⟩, ⟨.some 34, .none, .ext (.t 29) 1⟩, ⟨.some 5, .none, .mv (.t 33)⟩, ⟨.some 6, .none, .mv (.t 34)⟩]) (.seq (.seq (.rg false [⟨.some 35, .none, .mv (.t 6)⟩, ⟨.some 36, .none, .bin .neq (.t 35) (.c (.int .i64 0))⟩]) (.cond (.t 36) (.seq (.rg false [⟨.some 37, .none, .call 295 .pure []⟩, ⟨.some 38, .none, .mv (.t 37)⟩, ⟨.some 39, .some (38, true), .mv (.t 5)⟩, ⟨.some 40, .some (38, true), .lenL (.t 39)⟩, ⟨.some 41, .some (38, true), .bin .eql (.t 40) (.c (.int .i64 0))⟩, ⟨.some 42, .none, .pick (.t 38) (.t 41) (.c (.bool false))⟩, ⟨.some 4, .none, .mv (.t 42)⟩]) .ret) .skip)) (.seq (.rg false [⟨.some 43, .none, .bsl 1 (.string ⟨#[]⟩) 1 [(0, .c (.string ⟨#[110, 101, 118, 101, 114]⟩))]⟩, ⟨.some 44, .none, .build (.agg #[.string ⟨#[]⟩, .int .i64 0, .slice .none 0 0]) [(0, (1, .c (.string ⟨#[122, 122]⟩))), (1, (1, .c (.int .i64 1))), (2, (1, .t 43))]⟩, ⟨.some 7, .none, .box (.c (.agg #[.string ⟨#[]⟩, .int .i64 0, .slice .none 0 0]))⟩, ⟨.none, .none, .st 3 (.t 7) (.t 44)⟩]) (.seq (.seq (.rg false [⟨.some 45, .none, .mv (.t 1)⟩, ⟨.some 46, .none, .lenL (.t 45)⟩, ⟨.some 47, .none, .mv (.c (.int .i64 0))⟩]) (.block 0 (.loop (.seq (.rg false [⟨.some 48, .none, .bin .lss (.t 47) (.t 46)⟩]) (.seq (.cond (.t 48) .skip (.exit 0)) (.seq (.block 1 (.seq (.rg false [⟨.some 49, .none, .ia 2 (.t 45) (.t 47)⟩, ⟨.some 50, .none, .ld (.some 2) (.t 49)⟩, ⟨.some 9, .none, .box (.c (.agg #[.string ⟨#[]⟩, .string ⟨#[]⟩]))⟩, ⟨.none, .none, .st 2 (.t 9) (.t 50)⟩]) (.seq (.rg false [⟨.some 51, .none, .fa 0 (.t 9)⟩, ⟨.some 52, .none, .ld .none (.t 51)⟩, ⟨.some 53, .none, .bin .eql (.t 52) (.c (.string ⟨#[122, 122]⟩))⟩]) (.cond (.t 53) (.seq (.rg false [⟨.some 54, .none, .call 295 .pure []⟩, ⟨.some 4, .none, .mv (.t 54)⟩]) .ret) .skip)))) (.rg false [⟨.some 55, .none, .bin .add (.t 47) (.c (.int .i64 1))⟩, ⟨.some 47, .none, .mv (.t 55)⟩]))))))) (.seq (.rg2 [⟨.some 56, .none, .ld (.some 9) (.t 2)⟩, ⟨.some 57, .none, .ld (.some 9) (.t 2)⟩, ⟨.some 10, .none, .box (.c (.agg #[.string ⟨#[]⟩, .slice .none 0 0, .slice .none 0 0, .int .i64 0, .int .i64 0, .int .i64 0, .slice .none 0 0, .bool false, .slice .none 0 0]))⟩, ⟨.some 11, .none, .box (.c (.agg #[.string ⟨#[]⟩, .slice .none 0 0, .slice .none 0 0, .int .i64 0, .int .i64 0, .int .i64 0, .slice .none 0 0, .bool false, .slice .none 0 0]))⟩, ⟨.none, .none, .st 9 (.t 10) (.t 56)⟩, ⟨.none, .none, .st 9 (.t 11) (.t 57)⟩] [⟨.some 56, .none, .ld (.some 9) (.t 2)⟩, ⟨.some 10, .none, .box (.c (.agg #[.string ⟨#[]⟩, .slice .none 0 0, .slice .none 0 0, .int .i64 0, .int .i64 0, .int .i64 0, .slice .none 0 0, .bool false, .slice .none 0 0]))⟩, ⟨.some 11, .none, .box (.c (.agg #[.string ⟨#[]⟩, .slice .none 0 0, .slice .none 0 0, .int .i64 0, .int .i64 0, .int .i64 0, .slice .none 0 0, .bool false, .slice .none 0 0]))⟩, ⟨.none, .none, .st 9 (.t 10) (.t 56)⟩, ⟨.some 57, .none, .ld (.some 9) (.t 2)⟩, ⟨.none, .none, .st 9 (.t 11) (.t 57)⟩]) (.seq (.rg true [⟨.some 58, .none, .mv (.c (.slice .none 0 0))⟩, ⟨.some 59, .none, .fa 8 (.t 2)⟩, ⟨.some 60, .none, .ld .none (.t 59)⟩, ⟨.some 62, .none, .ld (.some 3) (.t 7)⟩, ⟨.some 61, .none, .app 9 144 false (.t 58) (.t 60)⟩, ⟨.some 63, .none, .bsl 3 (.agg #[.string ⟨#[]⟩, .int .i64 0, .slice .none 0 0]) 1 [(0, .t 62)]⟩, ⟨.some 64, .none, .build (.agg #[.string ⟨#[]⟩, .slice .none 0 0, .slice .none 0 0, .int .i64 0, .int .i64 0, .int .i64 0, .slice .none 0 0, .bool false, .slice .none 0 0]) [(0, (1, .c (.string ⟨#[120]⟩))), (4, (1, .c (.int .i64 1))), (5, (1, .c (.int .i64 1))), (1, (1, .t 63))]⟩, ⟨.some 65, .none, .bsl 9 (.agg #[.string ⟨#[]⟩, .slice .none 0 0, .slice .none 0 0, .int .i64 0, .int .i64 0, .int .i64 0, .slice .none 0 0, .bool false, .slice .none 0 0]) 1 [(0, .t 64)]⟩, ⟨.some 66, .none, .app 9 144 false (.t 61) (.t 65)⟩, ⟨.some 67, .none, .fa 8 (.t 10)⟩, ⟨.none, .none, .st 1 (.t 67) (.t 66)⟩]) (.seq (.rg false [⟨.some 68, .none, .build (.agg #[.string ⟨#[]⟩, .slice .none 0 0, .slice .none 0 0, .int .i64 0, .int .i64 0, .int .i64 0, .slice .none 0 0, .bool false, .slice .none 0 0]) [(0, (1, .c (.string ⟨#[102, 105, 114, 115, 116]⟩))), (4, (1, .c (.int .i64 1))), (5, (1, .c (.int .i64 1)))]⟩, ⟨.some 69, .none, .bsl 9 (.agg #[.string ⟨#[]⟩, .slice .none 0 0, .slice .none 0 0, .int .i64 0, .int .i64 0, .int .i64 0, .slice .none 0 0, .bool false, .slice .none 0 0]) 1 [(0, .t 68)]⟩, ⟨.some 70, .none, .fa 8 (.t 2)⟩, ⟨.some 71, .none, .ld .none (.t 70)⟩, ⟨.some 72, .none, .app 9 144 false (.t 69) (.t 71)⟩, ⟨.some 73, .none, .fa 8 (.t 11)⟩, ⟨.none, .none, .st 1 (.t 73) (.t 72)⟩]) (.seq (.rg false [⟨.some 75, .none, .ld (.some 9) (.t 10)⟩, ⟨.some 76, .none, .mv (.t 1)⟩, ⟨.some 77, .none, .call 296 .pure [.t 75, .t 76]⟩, ⟨.some 74, .none, .mv (.t 77)⟩, ⟨.some 78, .none, .ext (.t 74) 0⟩, ⟨.some 79, .none, .ext (.t 74) 1⟩, ⟨.some 12, .none, .mv (.t 78)⟩, ⟨.some 13, .none, .mv (.t 79)⟩]) (.seq (.rg false [⟨.some 81, .none, .ld (.some 9) (.t 11)⟩, ⟨.some 82, .none, .mv (.t 1)⟩, ⟨.some 83, .none, .call 296 .pure [.t 81, .t 82]⟩, ⟨.some 80, .none, .mv (.t 83)⟩, ⟨.some 84, .none, .ext (.t 80) 0⟩, ⟨.some 85, .none, .ext (.t 80) 1⟩, ⟨.some 14, .none, .mv (.t 84)⟩, ⟨.some 15, .none, .mv (.t 85)⟩]) (.seq (.seq (.rg false [⟨.some 86, .none, .mv (.t 13)⟩, ⟨.some 87, .none, .bin .neq (.t 86) (.c (.int .i64 0))⟩, ⟨.some 88, .none, .mv (.t 87)⟩, ⟨.some 89, .some (88, false), .mv (.t 12)⟩, ⟨.some 90, .some (88, false), .lenL (.t 89)⟩, ⟨.some 91, .some (88, false), .mv (.t 5)⟩, ⟨.some 92, .some (88, false), .lenL (.t 91)⟩, ⟨.some 93, .some (88, false), .bin .neq (.t 90) (.t 92)⟩, ⟨.some 94, .none, .pick (.t 88) (.c (.bool true)) (.t 93)⟩, ⟨.some 95, .none, .mv (.t 94)⟩, ⟨.some 96, .some (95, false), .mv (.t 15)⟩, ⟨.some 97, .some (95, false), .bin .neq (.t 96) (.c (.int .i64 0))⟩, ⟨.some 98, .none, .pick (.t 95) (.c (.bool true)) (.t 97)⟩, ⟨.some 99, .none, .mv (.t 98)⟩, ⟨.some 100, .some (99, false), .mv (.t 14)⟩, ⟨.some 101, .some (99, false), .lenL (.t 100)⟩, ⟨.some 102, .some (99, false), .bin .neq (.t 101) (.c (.int .i64 1))⟩, ⟨.some 103, .none, .pick (.t 99) (.c (.bool true)) (.t 102)⟩, ⟨.some 104, .none, .mv (.t 103)⟩, ⟨.some 105, .some (104, false), .mv (.t 14)⟩, ⟨.some 106, .some (104, false), .ia 10 (.t 105) (.c (.int .i64 0))⟩, ⟨.some 107, .some (104, false), .fa 0 (.t 106)⟩, ⟨.some 108, .some (104, false), .ld .none (.t 107)⟩, ⟨.some 109, .some (104, false), .bin .neq (.t 108) (.c (.string ⟨#[46, 48]⟩))⟩, ⟨.some 110, .none, .pick (.t 104) (.c (.bool true)) (.t 109)⟩, ⟨.some 111, .none, .mv (.t 110)⟩, ⟨.some 112, .some (111, false), .mv (.t 14)⟩, ⟨.some 113, .some (111, false), .ia 10 (.t 112) (.c (.int .i64 0))⟩, ⟨.some 114, .some (111, false), .fa 1 (.t 113)⟩, ⟨.some 115, .some (111, false), .fa 0 (.t 114)⟩, ⟨.some 116, .some (111, false), .ld .none (.t 115)⟩, ⟨.some 117, .some (111, false), .bin .neq (.t 116) (.c (.string ⟨#[102, 105, 114, 115, 116]⟩))⟩, ⟨.some 118, .none, .pick (.t 111) (.c (.bool true)) (.t 117)⟩, ⟨.some 119, .none, .mv (.t 118)⟩, ⟨.some 120, .some (119, false), .call 295 .pure []⟩, ⟨.some 121, .some (119, false), .un .not (.t 120)⟩, ⟨.some 122, .none, .pick (.t 119) (.c (.bool true)) (.t 121)⟩]) (.cond (.t 122) (.seq (.rg false [⟨.some 4, .none, .mv (.c (.bool false))⟩]) .ret) .skip)) (.seq (.seq (.rg false [⟨.some 123, .none, .mv (.t 5)⟩, ⟨.some 124, .none, .lenL (.t 123)⟩, ⟨.some 125, .none, .mv (.c (.int .i64 0))⟩]) (.block 2 (.loop (.seq (.rg false [⟨.some 126, .none, .bin .lss (.t 125) (.t 124)⟩]) (.seq (.cond (.t 126) .skip (.exit 2)) (.seq (.block 3 (.seq (.rg false [⟨.some 127, .none, .mv (.t 125)⟩, ⟨.some 16, .none, .mv (.t 127)⟩]) (.seq (.rg true [⟨.some 128, .none, .mv (.t 12)⟩, ⟨.some 129, .none, .mv (.t 16)⟩, ⟨.some 130, .none, .ia 10 (.t 128) (.t 129)⟩, ⟨.some 131, .none, .fa 0 (.t 130)⟩, ⟨.some 132, .none, .ld .none (.t 131)⟩, ⟨.some 133, .none, .mv (.t 5)⟩, ⟨.some 134, .none, .mv (.t 16)⟩, ⟨.some 135, .none, .ia 10 (.t 133) (.t 134)⟩, ⟨.some 136, .none, .fa 0 (.t 135)⟩, ⟨.some 137, .none, .ld .none (.t 136)⟩, ⟨.some 138, .none, .bin .neq (.t 132) (.t 137)⟩, ⟨.some 139, .none, .mv (.t 138)⟩, ⟨.some 140, .some (139, false), .mv (.t 12)⟩, ⟨.some 141, .some (139, false), .mv (.t 16)⟩, ⟨.some 142, .some (139, false), .ia 10 (.t 140) (.t 141)⟩, ⟨.some 143, .some (139, false), .fa 1 (.t 142)⟩, ⟨.some 144, .some (139, false), .ld (.some 9) (.t 143)⟩, ⟨.some 145, .some (139, false), .mv (.t 5)⟩, ⟨.some 146, .some (139, false), .mv (.t 16)⟩, ⟨.some 147, .some (139, false), .ia 10 (.t 145) (.t 146)⟩, ⟨.some 148, .some (139, false), .fa 1 (.t 147)⟩, ⟨.some 149, .some (139, false), .ld (.some 9) (.t 148)⟩, ⟨.some 150, .some (139, false), .call 300 .strict [.t 144, .t 149]⟩, ⟨.some 151, .some (139, false), .un .not (.t 150)⟩, ⟨.some 152, .none, .pick (.t 139) (.c (.bool true)) (.t 151)⟩]) (.cond (.t 152) (.seq (.rg false [⟨.some 4, .none, .mv (.c (.bool false))⟩]) .ret) .skip)))) (.rg false [⟨.some 153, .none, .bin .add (.t 125) (.c (.int .i64 1))⟩, ⟨.some 125, .none, .mv (.t 153)⟩]))))))) (.seq (.rg false [⟨.some 4, .none, .mv (.c (.bool true))⟩]) .ret)))))))))))))))
def lkp : List (Nat × Def) := [(289, d289)]
def bZZ : ByteArray := ⟨#[122, 122]⟩
def nevM : Mt := ⟨⟨#[122, 122]⟩, 1, [⟨#[110, 101, 118, 101, 114]⟩]⟩
def nevR : Rh := ⟨⟨#[120]⟩, [nevM], [], 0, 1, 1, [], false⟩
def fstR : Rh := ⟨⟨#[102, 105, 114, 115, 116]⟩, [], [], 0, 1, 1, [], false⟩
theorem get_none {l : List Lab} {n : ByteArray} (h : ∀ m ∈ l, m.1 ≠ n) : getB l n = ⟨#[]⟩ := by
  unfold getB
  rw [found_none fun j hj => ?_]
  · rfl
  · cases hb : isN l n j with
    | false => rfl
    | true =>
      exfalso
      have hn : nth l j = l[j] := by unfold nth; rw [List.getElem?_eq_getElem hj]; rfl
      unfold isN at hb
      rw [hn] at hb
      have hb2 : l[j].1.toList = n.toList := by simpa using hb
      have : l[j].1 = n := by
        have h3 := ba_beq l[j].1 n
        rw [hb] at h3
        exact of_decide_eq_true h3.symm
      exact absurd this (h _ (List.getElem_mem hj))
theorem nev_holds {l : List Lab} (h : ∀ m ∈ l, m.1 ≠ bZZ) : holdsA l nevR.ms = false := by
  have e : getB l nevM.n = ⟨#[]⟩ := get_none h
  show (holdsM l nevM && true) = false
  unfold holdsM
  rw [e]
  decide +kernel
theorem nev_held : Rt.Held (.mk nevR []) := ⟨_, _, ⟨by unfold Small; decide, by decide, fun m hm => by
    simp only [nevR, List.mem_singleton] at hm
    subst hm
    exact ⟨by unfold Small; decide, by decide, fun w hw => by
      simp only [nevM, List.mem_singleton] at hw
      subst hw
      unfold Small; decide⟩, by decide, by simp [nevR], by decide, by simp [nevR]⟩, by simp, by simp⟩
theorem fst_held : Rt.Held (.mk fstR []) := ⟨_, _, ⟨by unfold Small; decide, by decide, by simp [fstR], by decide, by simp [fstR], by decide, by simp [fstR]⟩, by simp, by simp⟩
theorem nev_head : mayR 3 (.mk nevR []) = true := by decide +kernel
theorem fst_head : mayR 3 (.mk fstR []) = true := by decide +kernel
section
variable {env : Nat → Option Def} {fr : Fr} {σ σ' σ'' : St} {K : Fr → St → Prop} {Q : X → Fr → St → Prop} {p : PV} {bs : List UInt8}
theorem s_callK {d f : Nat} {args : List PA} {as : List PV} {r : PV} {ops : List POp} (h1 : (args.map (pa fr)).mapM (fz σ dep) = some as) (h2 : AV env f as = some r)
    (h : ∀ σ', (∀ o g x, σ.m o g = some x → ∃ wr, σ'.m o g = some { x with wr := wr }) → (∀ d p, fz σ' d p = fz σ d p) → Wos env ops K (fr.set d r) σ') :
    Wos env (⟨some d, none, .call f .pure args⟩ :: ops) K fr σ := by
  have h3 : callE (EV env) f .pure (args.map (pa fr)) σ = some (r, σ) ∨ callE (EV env) f .pure (args.map (pa fr)) σ = some (r, σ.lock) := by
    simp only [callE, pcall_eq, h1, Option.bind_some, h2, Bool.false_eq_true, if_false]
    split
    · exact .inl rfl
    · exact .inr rfl
  rcases h3 with h3 | h3
  · exact s_plain (v := r) (σ' := σ) h3 (h σ (fun o g x hx => ⟨x.wr, hx⟩) fun _ _ => rfl)
  · refine s_plain (v := r) (σ' := σ.lock) h3 (h σ.lock (fun o g x hx => ⟨false, ?_⟩) fun d p => fz_lock σ d p)
    show (σ.m o g).map _ = _
    rw [hx]; rfl
theorem rt_nev : rt (.mk nevR []) = .agg [.sc (.string ⟨#[120]⟩), .sl [.agg [.sc (.string ⟨#[122, 122]⟩), .sc (.int .i64 1), .sl [.sc (.string ⟨#[110, 101, 118, 101, 114]⟩)]]], .sl [], .sc (.int .i64 0), .sc (.int .i64 1), .sc (.int .i64 1), .sl [], .sc (.bool false), .sl []] := by
  rw [rt, rts]; rfl
theorem rt_fst : rt (.mk fstR []) = .agg [.sc (.string ⟨#[102, 105, 114, 115, 116]⟩), .sl [], .sl [], .sc (.int .i64 0), .sc (.int .i64 1), .sc (.int .i64 1), .sl [], .sc (.bool false), .sl []] := by
  rw [rt, rts]; rfl
theorem a289 (H : Rr9 env) (G : Has lkp env) {r : Rt} {l0 : List Lab} (hr : r.Held) (hl0 : l0.length ≤ 9223372036854775807) : AV env 289 [rt r, .sl (labs l0)] = some (.sc (.bool true)) := by
  have h293 := a293 H.d hl0
  have hls := fewL_smalls l0
  have hln : (fewL l0).length ≤ 10 := by rw [fewL_len]; omega
  have h294 : AV env 294 [rt r, .sc (.int .i64 40)] = some (.sc (.int .i64 ((min (cntR r) 41 : Nat) : Int))) := a294 H.d r hr 40 (by omega)
  have hal := H.al
  generalize fewL l0 = l at h293 hls hln
  obtain ⟨h, ks, hh, hkl, hkh⟩ := hr
  have hr0 : Rt.Held (.mk h ks) := ⟨_, _, hh, hkl, hkh⟩
  have hkl' := rts_len ks
  have hll : (labs l).length = l.length := List.length_map _
  refine AV_wp (G (289, d289) (by simp [lkp])) rfl ?_
  rw [rt] at h294 ⊢
  unfold rhd at h294 ⊢
  (repeat' first
    | refine w_seq ?_ | refine w_rg ?_ | refine wo_nil ?_ | refine g_skU ?_ | refine g_skT ?_ | refine g_skF ?_
    | ((first | apply s_plain | apply s_void | apply s_guard | apply g_goT | apply g_goF); · simp only [go_sem, Nat.reduceEqDiff, Nat.reduceAdd, Nat.reduceLeDiff, h293, h294, hkl']; (first | done | rfl))
    | ((first | apply g_T | apply g_F | apply g_gT | apply g_gF); · intro q1_; (first | intro q2_ | have q2_ := q1_); simp only [go_sem, Nat.reduceEqDiff, Nat.reduceAdd, Nat.reduceLeDiff, h293, h294, hkl', q1_, q2_]; (first | done | rfl))
    | fail
    )
  refine w_condB (by simp only [go_sem, Nat.reduceEqDiff, Nat.reduceAdd, Nat.reduceLeDiff]; first | done | rfl) (fun hc => ?_) (fun hc => ?_)
  · (repeat' first
    | refine w_seq ?_ | refine w_rg ?_ | refine wo_nil ?_ | refine g_skU ?_ | refine g_skT ?_ | refine g_skF ?_
    | ((first | apply s_plain | apply s_void | apply s_guard | apply g_goT | apply g_goF); · simp only [go_sem, Nat.reduceEqDiff, Nat.reduceAdd, Nat.reduceLeDiff, hal]; (first | done | rfl))
    | ((first | apply g_T | apply g_F | apply g_gT | apply g_gF); · intro q1_; (first | intro q2_ | have q2_ := q1_); simp only [go_sem, Nat.reduceEqDiff, Nat.reduceAdd, Nat.reduceLeDiff, hal, q1_, q2_]; (first | done | rfl))
    | (apply w_condX; · simp only [go_sem, Nat.reduceEqDiff, Nat.reduceAdd, Nat.reduceLeDiff, hal]; (first | done | rfl)); (first | refine wcd_T ?_ | refine wcd_F ?_)
    | refine w_skip ?_ | refine w_exit ?_ | refine w_ret ?_
    | fail
    )
    exact ⟨by first | exact .inr rfl | exact .inr trivial | exact .inl rfl, by simp only [go_sem, Nat.reduceEqDiff, Nat.reduceAdd, Nat.reduceLeDiff, retOf, resOf]; first | done | rfl⟩
  · have hc' : cntR (.mk h ks) ≤ 40 ∧ ks.length ≤ 14 := by
      simp only [Bool.or_eq_false_iff, decide_eq_false_iff_not] at hc
      omega
    obtain ⟨hc1, hc2⟩ := hc'
    have ht := a296 H.m H.b H.a H.f hr0 (l := l) (by omega) (by omega) hls
    rw [show rt (.mk h ks) = rhd h (.sl (rts ks)) from rt_eq _] at ht
    unfold rhd at ht
    cases hA : (mayR 4 (.mk h ks) && rightL l) with
    | false =>
      rw [hA] at ht
      simp only [Bool.false_eq_true, if_false] at ht
      (repeat' first
    | refine w_seq ?_ | refine w_rg ?_ | refine wo_nil ?_ | refine g_skU ?_ | refine g_skT ?_ | refine g_skF ?_
    | ((first | apply s_plain | apply s_void | apply s_guard | apply g_goT | apply g_goF); · simp only [go_sem, Nat.reduceEqDiff, Nat.reduceAdd, Nat.reduceLeDiff, ht, hal]; (first | done | rfl))
    | ((first | apply g_T | apply g_F | apply g_gT | apply g_gF); · intro q1_; (first | intro q2_ | have q2_ := q1_); simp only [go_sem, Nat.reduceEqDiff, Nat.reduceAdd, Nat.reduceLeDiff, ht, hal, q1_, q2_]; (first | done | rfl))
    | (apply w_condX; · simp only [go_sem, Nat.reduceEqDiff, Nat.reduceAdd, Nat.reduceLeDiff, ht, hal]; (first | done | rfl)); (first | refine wcd_T ?_ | refine wcd_F ?_)
    | refine w_skip ?_ | refine w_exit ?_ | refine w_ret ?_
    | fail
    )
      exact ⟨by first | exact .inr rfl | exact .inr trivial | exact .inl rfl, by simp only [go_sem, Nat.reduceEqDiff, Nat.reduceAdd, Nat.reduceLeDiff, retOf, resOf]; first | done | rfl⟩
    | true =>
      rw [hA] at ht
      simp only [if_true] at ht
      rw [Bool.and_eq_true] at hA
      obtain ⟨hm, hrl⟩ := hA
      have hlenT := findR_len l (.mk h ks) ⟨#[]⟩
      have hheld : ∀ q ∈ findR l (.mk h ks) ⟨#[]⟩, q.2.Held := findR_held l _ hr0 _
      have hT0 : findR l (.mk h ks) ⟨#[]⟩ = findR l (.mk h ks) ⟨#[]⟩ := rfl
      generalize hTe : findR l (.mk h ks) ⟨#[]⟩ = T at ht hlenT hheld
      have hTl := tgFs_len T
      have hTc : T.length ≤ 1000000 := by omega
      (repeat' first
    | refine w_seq ?_ | refine w_rg ?_ | refine wo_nil ?_ | refine g_skU ?_ | refine g_skT ?_ | refine g_skF ?_
    | ((first | apply s_plain | apply s_void | apply s_guard | apply g_goT | apply g_goF); · simp only [go_sem, Nat.reduceEqDiff, Nat.reduceAdd, Nat.reduceLeDiff, ht, hTl, hll, List.set_cons_succ]; (first | done | rfl))
    | ((first | apply g_T | apply g_F | apply g_gT | apply g_gF); · intro q1_; (first | intro q2_ | have q2_ := q1_); simp only [go_sem, Nat.reduceEqDiff, Nat.reduceAdd, Nat.reduceLeDiff, ht, hTl, hll, List.set_cons_succ, q1_, q2_]; (first | done | rfl))
    | (apply w_condX; · simp only [go_sem, Nat.reduceEqDiff, Nat.reduceAdd, Nat.reduceLeDiff, ht, hTl, hll, List.set_cons_succ]; (first | done | rfl)); (first | refine wcd_T ?_ | refine wcd_F ?_)
    | refine w_skip ?_ | refine w_exit ?_ | refine w_ret ?_
    | fail
    )
      refine w_cutB (fun fr σ => (fr 1 = .sl (labs l) ∧ fr 2 = .bx 2000002 0 9 0 0 ∧ fr 5 = .sl (tgFs T) ∧ fr 7 = .bx 2000007 0 3 0 0) ∧ (σ.m 2000002 0 = some ⟨9, [rhd h (.sl (rts ks))], true, true⟩ ∧ σ.m 2000007 0 = some ⟨3, [.agg [.sc (.string ⟨#[122, 122]⟩), .sc (.int .i64 1), .ob 43 0 1 0 1]], true, true⟩ ∧ σ.m 43 0 = some ⟨1, [.sc (.string ⟨#[110, 101, 118, 101, 114]⟩)], true, true⟩) ∧ (0 < σ.c 2000002 ∧ 0 < σ.c 2000007 ∧ 0 < σ.c 43) ∧ ∀ m ∈ l, m.1 ≠ bZZ) ?_ ?_
      · refine w_rangeF l.length (by omega) (fun i fr σ => (σ.m 2000002 0 = some ⟨9, [rhd h (.sl (rts ks))], true, true⟩ ∧ σ.m 2000007 0 = some ⟨3, [.agg [.sc (.string ⟨#[122, 122]⟩), .sc (.int .i64 1), .ob 43 0 1 0 1]], true, true⟩ ∧ σ.m 43 0 = some ⟨1, [.sc (.string ⟨#[110, 101, 118, 101, 114]⟩)], true, true⟩) ∧ (0 < σ.c 2000002 ∧ 0 < σ.c 2000007 ∧ 0 < σ.c 43) ∧ ∀ j (hj : j < l.length), j < i → l[j].1 ≠ bZZ) ⟨by decide, rfl, rfl⟩ (fun _ _ _ _ h => ⟨h, h, h⟩) ⟨⟨by simp only [go_sem, Nat.reduceEqDiff, Nat.reduceAdd, Nat.reduceLeDiff, rhd], by simp only [go_sem, Nat.reduceEqDiff, Nat.reduceAdd, Nat.reduceLeDiff], by simp only [go_sem, Nat.reduceEqDiff, Nat.reduceAdd, Nat.reduceLeDiff]⟩, ⟨by simp only [go_sem, Nat.reduceEqDiff, Nat.reduceAdd, Nat.reduceLeDiff], by simp only [go_sem, Nat.reduceEqDiff, Nat.reduceAdd, Nat.reduceLeDiff], by simp only [go_sem, Nat.reduceEqDiff, Nat.reduceAdd, Nat.reduceLeDiff]⟩, fun j _ hj => by omega⟩ (by simp only [go_sem, Nat.reduceEqDiff, Nat.reduceAdd, Nat.reduceLeDiff]; first | done | rfl) (by simp only [go_sem, Nat.reduceEqDiff, Nat.reduceAdd, Nat.reduceLeDiff, hll]; first | done | rfl) ?_ ?_
        · rintro i fr1 σ1 hi ⟨⟨m2, m7, m43⟩, ⟨c2, c7, c43⟩, h3⟩ hti hfr
          have f0_45 := hfr 45 rfl; have f0_46 := hfr 46 rfl; try (simp only [go_sem, Nat.reduceEqDiff, Nat.reduceAdd, Nat.reduceLeDiff] at f0_45); try (simp only [go_sem, Nat.reduceEqDiff, Nat.reduceAdd, Nat.reduceLeDiff] at f0_46)
          have hx := List.getElem?_eq_getElem hi
          have hy : (labs l)[i]? = some (lab l[i]) := by simp [labs, hx]
          have e1 : (0 : Int) ≤ (i : Int) ∧ (i : Int) < (l.length : Int) := by omega
          have hnz : l[i].1 ≠ bZZ ∨ l[i].1 = bZZ := by by_cases q : l[i].1 = bZZ <;> simp [q]
          generalize hq : l[i] = q at hy hnz
          unfold lab at hy
          unfold rhd at m2
          refine w_block ?_
          (repeat' first
    | refine w_seq ?_ | refine w_rg ?_ | refine wo_nil ?_ | refine g_skU ?_ | refine g_skT ?_ | refine g_skF ?_
    | ((first | apply s_plain | apply s_void | apply s_guard | apply g_goT | apply g_goF); · simp only [go_sem, Nat.reduceEqDiff, Nat.reduceAdd, Nat.reduceLeDiff, f0_45, f0_46, hti, e1, hll, Int.toNat_natCast, hy, ba_beq]; (first | done | rfl))
    | ((first | apply g_T | apply g_F | apply g_gT | apply g_gF); · intro q1_; (first | intro q2_ | have q2_ := q1_); simp only [go_sem, Nat.reduceEqDiff, Nat.reduceAdd, Nat.reduceLeDiff, f0_45, f0_46, hti, e1, hll, Int.toNat_natCast, hy, ba_beq, q1_, q2_]; (first | done | rfl))
    | fail
    )
          refine w_condB (by simp only [go_sem, Nat.reduceEqDiff, Nat.reduceAdd, Nat.reduceLeDiff]; first | done | rfl) (fun hc => ?_) (fun hc => ?_)
          · (repeat' first
    | refine w_seq ?_ | refine w_rg ?_ | refine wo_nil ?_ | refine g_skU ?_ | refine g_skT ?_ | refine g_skF ?_
    | ((first | apply s_plain | apply s_void | apply s_guard | apply g_goT | apply g_goF); · simp only [go_sem, Nat.reduceEqDiff, Nat.reduceAdd, Nat.reduceLeDiff, hal]; (first | done | rfl))
    | ((first | apply g_T | apply g_F | apply g_gT | apply g_gF); · intro q1_; (first | intro q2_ | have q2_ := q1_); simp only [go_sem, Nat.reduceEqDiff, Nat.reduceAdd, Nat.reduceLeDiff, hal, q1_, q2_]; (first | done | rfl))
    | (apply w_condX; · simp only [go_sem, Nat.reduceEqDiff, Nat.reduceAdd, Nat.reduceLeDiff, hal]; (first | done | rfl)); (first | refine wcd_T ?_ | refine wcd_F ?_)
    | refine w_skip ?_ | refine w_exit ?_ | refine w_ret ?_
    | fail
    )
            exact ⟨by first | exact .inr rfl | exact .inr trivial | exact .inl rfl, by simp only [go_sem, Nat.reduceEqDiff, Nat.reduceAdd, Nat.reduceLeDiff, retOf, resOf]; first | done | rfl⟩
          · (repeat' first
    | refine w_seq ?_ | refine w_rg ?_ | refine wo_nil ?_ | refine g_skU ?_ | refine g_skT ?_ | refine g_skF ?_
    | ((first | apply s_plain | apply s_void | apply s_guard | apply g_goT | apply g_goF); · simp only [go_sem, Nat.reduceEqDiff, Nat.reduceAdd, Nat.reduceLeDiff]; (first | done | rfl))
    | ((first | apply g_T | apply g_F | apply g_gT | apply g_gF); · intro q1_; (first | intro q2_ | have q2_ := q1_); simp only [go_sem, Nat.reduceEqDiff, Nat.reduceAdd, Nat.reduceLeDiff, q1_, q2_]; (first | done | rfl))
    | (apply w_condX; · simp only [go_sem, Nat.reduceEqDiff, Nat.reduceAdd, Nat.reduceLeDiff]; (first | done | rfl)); (first | refine wcd_T ?_ | refine wcd_F ?_)
    | refine w_skip ?_ | refine w_exit ?_ | refine w_ret ?_
    | fail
    )
            try simp only [if_true]
            refine ⟨⟨?_, ?_, ?_⟩, ⟨?_, ?_, ?_⟩, fun j hj hji => ?_⟩
            · simp only [go_sem, Nat.reduceEqDiff, Nat.reduceAdd, Nat.reduceLeDiff, m2, rhd]
            · simp only [go_sem, Nat.reduceEqDiff, Nat.reduceAdd, Nat.reduceLeDiff, m7]
            · simp only [go_sem, Nat.reduceEqDiff, Nat.reduceAdd, Nat.reduceLeDiff, m43]
            · simp only [go_sem, Nat.reduceEqDiff, Nat.reduceAdd, Nat.reduceLeDiff]; exact c2
            · simp only [go_sem, Nat.reduceEqDiff, Nat.reduceAdd, Nat.reduceLeDiff]; exact c7
            · simp only [go_sem, Nat.reduceEqDiff, Nat.reduceAdd, Nat.reduceLeDiff]; exact c43
            · by_cases e : j = i
              · subst e
                rw [hq]
                have hb := ba_beq q.1 bZZ
                rw [show bZZ.toList = [122, 122] by decide +kernel, hc] at hb
                exact of_decide_eq_false hb.symm
              · exact h3 j hj (by omega)
        · rintro fr1 σ1 ⟨hm3, hc3, h3⟩ hfr
          have e0_1 := hfr 1 rfl; have e0_2 := hfr 2 rfl; have e0_5 := hfr 5 rfl; have e0_7 := hfr 7 rfl; try (simp only [go_sem, Nat.reduceEqDiff, Nat.reduceAdd, Nat.reduceLeDiff] at e0_1); try (simp only [go_sem, Nat.reduceEqDiff, Nat.reduceAdd, Nat.reduceLeDiff] at e0_2); try (simp only [go_sem, Nat.reduceEqDiff, Nat.reduceAdd, Nat.reduceLeDiff] at e0_5); try (simp only [go_sem, Nat.reduceEqDiff, Nat.reduceAdd, Nat.reduceLeDiff] at e0_7)
          try simp only [if_true]
          refine ⟨⟨by simp only [e0_1, e0_2, e0_5, e0_7], by simp only [e0_1, e0_2, e0_5, e0_7], by simp only [e0_1, e0_2, e0_5, e0_7], by simp only [e0_1, e0_2, e0_5, e0_7]⟩, hm3, hc3, fun m hmm => ?_⟩
          obtain ⟨j, hj, rfl⟩ := List.getElem_of_mem hmm
          exact h3 j hj hj
      · rintro fr1 σ1 ⟨⟨g1, g2, g5, g7⟩, ⟨m2, m7, m43⟩, ⟨c2, c7, c43⟩, hz⟩
        have hnev := nev_holds hz
        unfold rhd at m2
        refine w_seqC (fun fr σ => ∃ n10 n11, (fr 1 = .sl (labs l) ∧ fr 2 = .bx 2000002 0 9 0 0 ∧ fr 5 = .sl (tgFs T) ∧ fr 7 = .bx 2000007 0 3 0 0 ∧ fr 10 = .bx 2000010 n10 9 0 0 ∧ fr 11 = .bx 2000011 n11 9 0 0) ∧
            (σ.m 2000002 0 = some ⟨9, [rhd h (.sl (rts ks))], true, true⟩ ∧ σ.m 2000007 0 = some ⟨3, [.agg [.sc (.string ⟨#[122, 122]⟩), .sc (.int .i64 1), .ob 43 0 1 0 1]], true, true⟩ ∧ σ.m 43 0 = some ⟨1, [.sc (.string ⟨#[110, 101, 118, 101, 114]⟩)], true, true⟩ ∧ σ.m 2000010 n10 = some ⟨9, [rhd h (.sl (rts ks))], true, true⟩ ∧ σ.m 2000011 n11 = some ⟨9, [rhd h (.sl (rts ks))], true, true⟩) ∧
            (0 < σ.c 2000002 ∧ 0 < σ.c 2000007 ∧ 0 < σ.c 43 ∧ n10 < σ.c 2000010 ∧ n11 < σ.c 2000011)) ?_ ?_
        · apply w_rg2
          · (repeat' first
    | refine w_seq ?_ | refine w_rg ?_ | refine wo_nil ?_ | refine g_skU ?_ | refine g_skT ?_ | refine g_skF ?_
    | ((first | apply s_plain | apply s_void | apply s_guard | apply g_goT | apply g_goF); · simp only [go_sem, Nat.reduceEqDiff, Nat.reduceAdd, Nat.reduceLeDiff, g2, m2]; (first | done | rfl))
    | ((first | apply g_T | apply g_F | apply g_gT | apply g_gF); · intro q1_; (first | intro q2_ | have q2_ := q1_); simp only [go_sem, Nat.reduceEqDiff, Nat.reduceAdd, Nat.reduceLeDiff, g2, m2, q1_, q2_]; (first | done | rfl))
    | fail
    )
            exact ⟨rfl, rfl⟩
          · (repeat' first
    | refine w_seq ?_ | refine w_rg ?_ | refine wo_nil ?_ | refine g_skU ?_ | refine g_skT ?_ | refine g_skF ?_
    | ((first | apply s_plain | apply s_void | apply s_guard | apply g_goT | apply g_goF); · simp only [go_sem, Nat.reduceEqDiff, Nat.reduceAdd, Nat.reduceLeDiff, g2, m2]; (first | done | rfl))
    | ((first | apply g_T | apply g_F | apply g_gT | apply g_gF); · intro q1_; (first | intro q2_ | have q2_ := q1_); simp only [go_sem, Nat.reduceEqDiff, Nat.reduceAdd, Nat.reduceLeDiff, g2, m2, q1_, q2_]; (first | done | rfl))
    | fail
    )
            refine ⟨?_, rfl⟩
            rw [set_swap _ (show (11 : Nat) ≠ 57 by decide), set_swap _ (show (10 : Nat) ≠ 57 by decide)]
          · refine ⟨rfl, σ1.c 2000010, σ1.c 2000011, ⟨by simp only [go_sem, Nat.reduceEqDiff, Nat.reduceAdd, Nat.reduceLeDiff, g1], by simp only [go_sem, Nat.reduceEqDiff, Nat.reduceAdd, Nat.reduceLeDiff, g2], by simp only [go_sem, Nat.reduceEqDiff, Nat.reduceAdd, Nat.reduceLeDiff, g5], by simp only [go_sem, Nat.reduceEqDiff, Nat.reduceAdd, Nat.reduceLeDiff, g7], by simp only [go_sem, Nat.reduceEqDiff, Nat.reduceAdd, Nat.reduceLeDiff], by simp only [go_sem, Nat.reduceEqDiff, Nat.reduceAdd, Nat.reduceLeDiff]⟩, ⟨by simp only [go_sem, Nat.reduceEqDiff, Nat.reduceAdd, Nat.reduceLeDiff, m2, rhd], by simp only [go_sem, Nat.reduceEqDiff, Nat.reduceAdd, Nat.reduceLeDiff, m7], by simp only [go_sem, Nat.reduceEqDiff, Nat.reduceAdd, Nat.reduceLeDiff, m43], by simp only [go_sem, Nat.reduceEqDiff, Nat.reduceAdd, Nat.reduceLeDiff, rhd], by simp only [go_sem, Nat.reduceEqDiff, Nat.reduceAdd, Nat.reduceLeDiff, rhd]⟩, ⟨by simp only [go_sem, Nat.reduceEqDiff, Nat.reduceAdd, Nat.reduceLeDiff]; exact c2, by simp only [go_sem, Nat.reduceEqDiff, Nat.reduceAdd, Nat.reduceLeDiff]; exact c7, by simp only [go_sem, Nat.reduceEqDiff, Nat.reduceAdd, Nat.reduceLeDiff]; exact c43, by simp only [go_sem, Nat.reduceEqDiff, Nat.reduceAdd, Nat.reduceLeDiff], by simp only [go_sem, Nat.reduceEqDiff, Nat.reduceAdd, Nat.reduceLeDiff]⟩⟩
        · clear g1 g2 g5 g7 m2 m7 m43 c2 c7 c43
          clear fr1 σ1
          rintro fr1 σ1 ⟨n10, n11, ⟨g1, g2, g5, g7, g10, g11⟩, ⟨m2, m7, m43, m10, m11⟩, ⟨c2, c7, c43, c10, c11⟩⟩
          unfold rhd at m2 m10 m11
          refine w_seqC (fun fr σ => ∃ p2 n63, (fr 1 = .sl (labs l) ∧ fr 2 = .bx 2000002 0 9 0 0 ∧ fr 5 = .sl (tgFs T) ∧ fr 10 = .bx 2000010 n10 9 0 0 ∧ fr 11 = .bx 2000011 n11 9 0 0) ∧
              (σ.m 2000002 0 = some ⟨9, [rhd h (.sl (rts ks))], true, true⟩ ∧ σ.m 2000010 n10 = some ⟨9, [rhd h p2], true, true⟩ ∧ σ.m 2000011 n11 = some ⟨9, [rhd h (.sl (rts ks))], true, true⟩ ∧ σ.m 63 n63 = some ⟨3, [.agg [.sc (.string ⟨#[122, 122]⟩), .sc (.int .i64 1), .ob 43 0 1 0 1]], true, true⟩ ∧ σ.m 43 0 = some ⟨1, [.sc (.string ⟨#[110, 101, 118, 101, 114]⟩)], true, true⟩) ∧
              (n10 < σ.c 2000010 ∧ n11 < σ.c 2000011 ∧ n63 < σ.c 63 ∧ 0 < σ.c 43) ∧ Gat σ [66] 9 false p2 (rts ks ++ [.agg [.sc (.string ⟨#[120]⟩), .ob 63 n63 3 0 1, .em, .sc (.int .i64 0), .sc (.int .i64 1), .sc (.int .i64 1), .em, .sc (.bool false), .em]])) ?_ ?_
          · (repeat' first
    | refine w_seq ?_ | refine w_rg ?_ | refine wo_nil ?_ | refine g_skU ?_ | refine g_skT ?_ | refine g_skF ?_
    | ((first | apply s_plain | apply s_void | apply s_guard | apply g_goT | apply g_goF); · simp only [go_sem, Nat.reduceEqDiff, Nat.reduceAdd, Nat.reduceLeDiff, g2, m2, g7, m7, hkl']; (first | done | rfl))
    | ((first | apply g_T | apply g_F | apply g_gT | apply g_gF); · intro q1_; (first | intro q2_ | have q2_ := q1_); simp only [go_sem, Nat.reduceEqDiff, Nat.reduceAdd, Nat.reduceLeDiff, g2, m2, g7, m7, hkl', q1_, q2_]; (first | done | rfl))
    | fail
    )
            refine s_gatL (d := 61) (t := 58) (x := .t 60) (os := []) (w := true) (kw := false) (xs := []) (ys := rts ks) (by simp only [go_sem, Nat.reduceEqDiff, Nat.reduceAdd, Nat.reduceLeDiff]; exact Gat.em) (by simp only [go_sem, Nat.reduceEqDiff, Nat.reduceAdd, Nat.reduceLeDiff, srcOf, elemsOf]) (rts_all _) (by rw [hkl', List.length_nil]; omega) ?_
            intro p1 τ1 hg1 hk1
            have x2 := (hk1.m 2000002 0 (by simp) c2).trans m2
            have x43 := (hk1.m 43 0 (by simp) c43).trans m43
            have x10 := (hk1.m 2000010 n10 (by simp) c10).trans m10
            have x11 := (hk1.m 2000011 n11 (by simp) c11).trans m11
            have y2 := Nat.lt_of_lt_of_le c2 (hk1.c 2000002)
            have y43 := Nat.lt_of_lt_of_le c43 (hk1.c 43)
            have y10 := Nat.lt_of_lt_of_le c10 (hk1.c 2000010)
            have y11 := Nat.lt_of_lt_of_le c11 (hk1.c 2000011)
            (repeat' first
    | refine w_seq ?_ | refine w_rg ?_ | refine wo_nil ?_ | refine g_skU ?_ | refine g_skT ?_ | refine g_skF ?_
    | ((first | apply s_plain | apply s_void | apply s_guard | apply g_goT | apply g_goF); · simp only [go_sem, Nat.reduceEqDiff, Nat.reduceAdd, Nat.reduceLeDiff, g10, x10]; (first | done | rfl))
    | ((first | apply g_T | apply g_F | apply g_gT | apply g_gF); · intro q1_; (first | intro q2_ | have q2_ := q1_); simp only [go_sem, Nat.reduceEqDiff, Nat.reduceAdd, Nat.reduceLeDiff, g10, x10, q1_, q2_]; (first | done | rfl))
    | fail
    )
            refine s_gatL (d := 66) (t := 61) (x := .t 65) (os := [61]) (w := false) (kw := false) (xs := rts ks) (ys := [.agg [.sc (.string ⟨#[120]⟩), .ob 63 (τ1.c 63) 3 0 1, .em, .sc (.int .i64 0), .sc (.int .i64 1), .sc (.int .i64 1), .em, .sc (.bool false), .em]]) (by simp only [go_sem, Nat.reduceEqDiff, Nat.reduceAdd, Nat.reduceLeDiff]; exact ((hg1.mono fun _ h => h).new _).new _) (by simp only [go_sem, Nat.reduceEqDiff, Nat.reduceAdd, Nat.reduceLeDiff, srcOf, elemsOf]) rfl (by rw [hkl']; simp; omega) ?_
            intro p2 τ2 hg2 hk2
            have z2 : τ2.m 2000002 0 = _ := (hk2.m 2000002 0 (by simp) (by simp only [go_sem, Nat.reduceEqDiff, Nat.reduceAdd, Nat.reduceLeDiff]; exact y2)).trans (by simp only [go_sem, Nat.reduceEqDiff, Nat.reduceAdd, Nat.reduceLeDiff, x2]; rfl)
            have z43 : τ2.m 43 0 = _ := (hk2.m 43 0 (by simp) (by simp only [go_sem, Nat.reduceEqDiff, Nat.reduceAdd, Nat.reduceLeDiff]; exact y43)).trans (by simp only [go_sem, Nat.reduceEqDiff, Nat.reduceAdd, Nat.reduceLeDiff, x43]; rfl)
            have z10 : τ2.m 2000010 n10 = _ := (hk2.m 2000010 n10 (by simp) (by simp only [go_sem, Nat.reduceEqDiff, Nat.reduceAdd, Nat.reduceLeDiff]; exact y10)).trans (by simp only [go_sem, Nat.reduceEqDiff, Nat.reduceAdd, Nat.reduceLeDiff, x10]; rfl)
            have z11 : τ2.m 2000011 n11 = _ := (hk2.m 2000011 n11 (by simp) (by simp only [go_sem, Nat.reduceEqDiff, Nat.reduceAdd, Nat.reduceLeDiff]; exact y11)).trans (by simp only [go_sem, Nat.reduceEqDiff, Nat.reduceAdd, Nat.reduceLeDiff, x11]; rfl)
            have z63 : τ2.m 63 (τ1.c 63) = _ := (hk2.m 63 (τ1.c 63) (by simp) (by simp only [go_sem, Nat.reduceEqDiff, Nat.reduceAdd, Nat.reduceLeDiff])).trans (by simp only [go_sem, Nat.reduceEqDiff, Nat.reduceAdd, Nat.reduceLeDiff]; rfl)
            have hp2 := hg2.ok
            (repeat' first
    | refine w_seq ?_ | refine w_rg ?_ | refine wo_nil ?_ | refine g_skU ?_ | refine g_skT ?_ | refine g_skF ?_
    | ((first | apply s_plain | apply s_void | apply s_guard | apply g_goT | apply g_goF); · simp only [go_sem, Nat.reduceEqDiff, Nat.reduceAdd, Nat.reduceLeDiff, g10, z10, hp2]; (first | done | rfl))
    | ((first | apply g_T | apply g_F | apply g_gT | apply g_gF); · intro q1_; (first | intro q2_ | have q2_ := q1_); simp only [go_sem, Nat.reduceEqDiff, Nat.reduceAdd, Nat.reduceLeDiff, g10, z10, hp2, q1_, q2_]; (first | done | rfl))
    | fail
    )
            refine ⟨rfl, p2, τ1.c 63, ⟨by simp only [go_sem, Nat.reduceEqDiff, Nat.reduceAdd, Nat.reduceLeDiff, g1], by simp only [go_sem, Nat.reduceEqDiff, Nat.reduceAdd, Nat.reduceLeDiff, g2], by simp only [go_sem, Nat.reduceEqDiff, Nat.reduceAdd, Nat.reduceLeDiff, g5], by simp only [go_sem, Nat.reduceEqDiff, Nat.reduceAdd, Nat.reduceLeDiff, g10], by simp only [go_sem, Nat.reduceEqDiff, Nat.reduceAdd, Nat.reduceLeDiff, g11]⟩, ⟨by simp only [go_sem, Nat.reduceEqDiff, Nat.reduceAdd, Nat.reduceLeDiff, z2, rhd], by simp only [go_sem, Nat.reduceEqDiff, Nat.reduceAdd, Nat.reduceLeDiff, rhd], by simp only [go_sem, Nat.reduceEqDiff, Nat.reduceAdd, Nat.reduceLeDiff, z11, rhd], by simp only [go_sem, Nat.reduceEqDiff, Nat.reduceAdd, Nat.reduceLeDiff, z63], by simp only [go_sem, Nat.reduceEqDiff, Nat.reduceAdd, Nat.reduceLeDiff, z43]⟩, ⟨?_, ?_, ?_, ?_⟩, ?_⟩
            · simp only [go_sem, Nat.reduceEqDiff, Nat.reduceAdd, Nat.reduceLeDiff]; exact Nat.lt_of_lt_of_le (by simp only [go_sem, Nat.reduceEqDiff, Nat.reduceAdd, Nat.reduceLeDiff]; exact y10) (hk2.c 2000010)
            · simp only [go_sem, Nat.reduceEqDiff, Nat.reduceAdd, Nat.reduceLeDiff]; exact Nat.lt_of_lt_of_le (by simp only [go_sem, Nat.reduceEqDiff, Nat.reduceAdd, Nat.reduceLeDiff]; exact y11) (hk2.c 2000011)
            · simp only [go_sem, Nat.reduceEqDiff, Nat.reduceAdd, Nat.reduceLeDiff]; exact Nat.lt_of_lt_of_le (by simp only [go_sem, Nat.reduceEqDiff, Nat.reduceAdd, Nat.reduceLeDiff]) (hk2.c 63)
            · simp only [go_sem, Nat.reduceEqDiff, Nat.reduceAdd, Nat.reduceLeDiff]; exact Nat.lt_of_lt_of_le (by simp only [go_sem, Nat.reduceEqDiff, Nat.reduceAdd, Nat.reduceLeDiff]; exact y43) (hk2.c 43)
            · exact hg2.put (by decide) _
          · clear g1 g2 g5 g7 g10 g11 m2 m7 m43 m10 m11 c2 c7 c43 c10 c11
            clear fr1 σ1
            rintro fr1 σ1 ⟨p2, n63, ⟨g1, g2, g5, g10, g11⟩, ⟨m2, m10, m11, m63, m43⟩, ⟨c10, c11, c63, c43⟩, hg2⟩
            have hp2 := hg2.ok
            unfold rhd at m2 m10 m11
            refine w_seqC (fun fr σ => ∃ p2 p3, (fr 1 = .sl (labs l) ∧ fr 5 = .sl (tgFs T) ∧ fr 10 = .bx 2000010 n10 9 0 0 ∧ fr 11 = .bx 2000011 n11 9 0 0) ∧
                (σ.m 2000010 n10 = some ⟨9, [rhd h p2], true, true⟩ ∧ σ.m 2000011 n11 = some ⟨9, [rhd h p3], true, true⟩) ∧ ((cellsOf p2 = [p2] ∧ okc p2 = true) ∧ (cellsOf p3 = [p3] ∧ okc p3 = true)) ∧ fz σ 11 p2 = some (.sl (rts (ks ++ [.mk nevR []]))) ∧ fz σ 11 p3 = some (.sl (rts (.mk fstR [] :: ks)))) ?_ ?_
            · (repeat' first
    | refine w_seq ?_ | refine w_rg ?_ | refine wo_nil ?_ | refine g_skU ?_ | refine g_skT ?_ | refine g_skF ?_
    | ((first | apply s_plain | apply s_void | apply s_guard | apply g_goT | apply g_goF); · simp only [go_sem, Nat.reduceEqDiff, Nat.reduceAdd, Nat.reduceLeDiff, g2, m2]; (first | done | rfl))
    | ((first | apply g_T | apply g_F | apply g_gT | apply g_gF); · intro q1_; (first | intro q2_ | have q2_ := q1_); simp only [go_sem, Nat.reduceEqDiff, Nat.reduceAdd, Nat.reduceLeDiff, g2, m2, q1_, q2_]; (first | done | rfl))
    | fail
    )
              refine s_gatL (d := 72) (t := 69) (x := .t 71) (os := [69]) (w := false) (kw := false) (xs := [.agg [.sc (.string ⟨#[102, 105, 114, 115, 116]⟩), .em, .em, .sc (.int .i64 0), .sc (.int .i64 1), .sc (.int .i64 1), .em, .sc (.bool false), .em]]) (ys := rts ks) (by simp only [go_sem, Nat.reduceEqDiff, Nat.reduceAdd, Nat.reduceLeDiff]; exact .inr ⟨69, σ1.c 69, true, by simp, rfl, by simp only [go_sem, Nat.reduceEqDiff, Nat.reduceAdd, Nat.reduceLeDiff], by simp only [go_sem, Nat.reduceEqDiff, Nat.reduceAdd, Nat.reduceLeDiff], by simp, fun e => by cases e⟩) (by simp only [go_sem, Nat.reduceEqDiff, Nat.reduceAdd, Nat.reduceLeDiff, srcOf, elemsOf]) (rts_all _) (by rw [hkl']; simp; omega) ?_
              intro p3 τ2 hg3 hk2
              have z43 : τ2.m 43 0 = _ := (hk2.m 43 0 (by simp) (by simp only [go_sem, Nat.reduceEqDiff, Nat.reduceAdd, Nat.reduceLeDiff]; exact c43)).trans (by simp only [go_sem, Nat.reduceEqDiff, Nat.reduceAdd, Nat.reduceLeDiff, m43]; rfl)
              have z10 : τ2.m 2000010 n10 = _ := (hk2.m 2000010 n10 (by simp) (by simp only [go_sem, Nat.reduceEqDiff, Nat.reduceAdd, Nat.reduceLeDiff]; exact c10)).trans (by simp only [go_sem, Nat.reduceEqDiff, Nat.reduceAdd, Nat.reduceLeDiff, m10]; rfl)
              have z11 : τ2.m 2000011 n11 = _ := (hk2.m 2000011 n11 (by simp) (by simp only [go_sem, Nat.reduceEqDiff, Nat.reduceAdd, Nat.reduceLeDiff]; exact c11)).trans (by simp only [go_sem, Nat.reduceEqDiff, Nat.reduceAdd, Nat.reduceLeDiff, m11]; rfl)
              have z63 : τ2.m 63 n63 = _ := (hk2.m 63 n63 (by simp) (by simp only [go_sem, Nat.reduceEqDiff, Nat.reduceAdd, Nat.reduceLeDiff]; exact c63)).trans (by simp only [go_sem, Nat.reduceEqDiff, Nat.reduceAdd, Nat.reduceLeDiff, m63]; rfl)
              have hg2' := (hg2.new (d := 69) ⟨9, [.agg [.sc (.string ⟨#[102, 105, 114, 115, 116]⟩), .em, .em, .sc (.int .i64 0), .sc (.int .i64 1), .sc (.int .i64 1), .em, .sc (.bool false), .em]], true, true⟩).keep hk2 (by decide)
              have hp3 := hg3.ok
              (repeat' first
    | refine w_seq ?_ | refine w_rg ?_ | refine wo_nil ?_ | refine g_skU ?_ | refine g_skT ?_ | refine g_skF ?_
    | ((first | apply s_plain | apply s_void | apply s_guard | apply g_goT | apply g_goF); · simp only [go_sem, Nat.reduceEqDiff, Nat.reduceAdd, Nat.reduceLeDiff, g11, z11, hp3]; (first | done | rfl))
    | ((first | apply g_T | apply g_F | apply g_gT | apply g_gF); · intro q1_; (first | intro q2_ | have q2_ := q1_); simp only [go_sem, Nat.reduceEqDiff, Nat.reduceAdd, Nat.reduceLeDiff, g11, z11, hp3, q1_, q2_]; (first | done | rfl))
    | fail
    )
              refine ⟨rfl, p2, p3, ⟨by simp only [go_sem, Nat.reduceEqDiff, Nat.reduceAdd, Nat.reduceLeDiff, g1], by simp only [go_sem, Nat.reduceEqDiff, Nat.reduceAdd, Nat.reduceLeDiff, g5], by simp only [go_sem, Nat.reduceEqDiff, Nat.reduceAdd, Nat.reduceLeDiff, g10], by simp only [go_sem, Nat.reduceEqDiff, Nat.reduceAdd, Nat.reduceLeDiff, g11]⟩, ⟨by simp only [go_sem, Nat.reduceEqDiff, Nat.reduceAdd, Nat.reduceLeDiff, z10, rhd], by simp only [go_sem, Nat.reduceEqDiff, Nat.reduceAdd, Nat.reduceLeDiff, rhd]⟩, ⟨hp2, hp3⟩, ?_, ?_⟩
              · refine gat_fz2 (hg2'.put (by decide) _) (d := 10) ?_
                rw [List.mapM_append, rts_fz _ 8, rts_append]
                simp only [go_sem, Nat.reduceEqDiff, Nat.reduceAdd, Nat.reduceLeDiff, z63, z43, rts, rt_nev]
                rfl
              · refine gat_fz2 (hg3.put (by decide) _) (d := 10) ?_
                rw [List.mapM_append, rts_fz _ 8]
                simp only [go_sem, Nat.reduceEqDiff, Nat.reduceAdd, Nat.reduceLeDiff, rts, rt_fst]
                rfl
            · clear g1 g2 g5 g10 g11 m2 m10 m11 m63 m43 c10 c11 c63 c43 hg2 hp2
              clear fr1 σ1
              rintro fr1 σ1 ⟨p2, p3, ⟨g1, g5, g10, g11⟩, ⟨m10, m11⟩, ⟨hp2, hp3⟩, hz2, hz3⟩
              unfold rhd at m10 m11
              have hrn : Rt.Held (.mk h (ks ++ [.mk nevR []])) := ⟨_, _, hh, by simp; omega, fun k hk => by
                rcases List.mem_append.1 hk with h1 | h1
                · exact hkh k h1
                · simp only [List.mem_singleton] at h1; subst h1; exact nev_held⟩
              have hrf : Rt.Held (.mk h (.mk fstR [] :: ks)) := ⟨_, _, hh, by simp; omega, fun k hk => by
                rcases List.mem_cons.1 hk with h1 | h1
                · subst h1; exact fst_held
                · exact hkh k h1⟩
              have hu := a296 H.m H.b H.a H.f (r := .mk h (ks ++ [.mk nevR []])) (l := l) hrn (by rw [cntR_mk, cntL_append, cntL_one, cntR_mk] at *; simp only [cntL]; omega) (by omega) hls
              have hv := a296 H.m H.b H.a H.f (r := .mk h (.mk fstR [] :: ks)) (l := l) hrf (by rw [cntR_mk] at hc1 ⊢; rw [cntL, cntR_mk]; simp only [cntL]; omega) (by omega) hls
              rw [show rt (.mk h (ks ++ [.mk nevR []])) = rhd h (.sl (rts (ks ++ [.mk nevR []]))) from rt_eq _, mayR_more hm (by simp; omega) (fun k hk => by
                rcases List.mem_append.1 hk with h1 | h1
                · exact .inl h1
                · simp only [List.mem_singleton] at h1; subst h1; exact .inr nev_head), hrl, findR_behind l (k := .mk nevR []) hnev, hTe] at hu
              rw [show rt (.mk h (.mk fstR [] :: ks)) = rhd h (.sl (rts (.mk fstR [] :: ks))) from rt_eq _, mayR_more hm (by simp; omega) (fun k hk => by
                rcases List.mem_cons.1 hk with h1 | h1
                · subst h1; exact .inr fst_head
                · exact .inl h1), hrl, findR_ahead l (f := fstR) rfl rfl] at hv
              rw [show tgFs [(stepP ⟨#[]⟩ 0, fstR)] = [.agg [.sc (.string ⟨#[46, 48]⟩), .sc (.string ⟨#[102, 105, 114, 115, 116]⟩), .sl [], .sl [], .sc (.int .i64 0), .sc (.int .i64 1), .sc (.int .i64 1), .sl [], .sc (.bool false), .sl []]] by
                have e : stepP ⟨#[]⟩ 0 = (⟨#[46, 48]⟩ : ByteArray) := by
                  apply byt_inj
                  decide +kernel
                rw [e]; rfl] at hv
              simp only [Bool.and_self, if_true] at hu hv
              unfold rhd at hu hv
              (repeat' first
    | refine w_seq ?_ | refine w_rg ?_ | refine wo_nil ?_ | refine g_skU ?_ | refine g_skT ?_ | refine g_skF ?_
    | ((first | apply s_plain | apply s_void | apply s_guard | apply g_goT | apply g_goF); · simp only [go_sem, Nat.reduceEqDiff, Nat.reduceAdd, Nat.reduceLeDiff, g10, m10, g1]; (first | done | rfl))
    | ((first | apply g_T | apply g_F | apply g_gT | apply g_gF); · intro q1_; (first | intro q2_ | have q2_ := q1_); simp only [go_sem, Nat.reduceEqDiff, Nat.reduceAdd, Nat.reduceLeDiff, g10, m10, g1, q1_, q2_]; (first | done | rfl))
    | fail
    )
              refine s_callK (by simp only [go_sem, Nat.reduceEqDiff, Nat.reduceAdd, Nat.reduceLeDiff, hz2]) hu fun σ2 hmm hff => ?_
              obtain ⟨wr, hm11⟩ := hmm _ _ _ m11
              have hz3' := (hff 11 p3).trans hz3
              (repeat' first
    | refine w_seq ?_ | refine w_rg ?_ | refine wo_nil ?_ | refine g_skU ?_ | refine g_skT ?_ | refine g_skF ?_
    | ((first | apply s_plain | apply s_void | apply s_guard | apply g_goT | apply g_goF); · simp only [go_sem, Nat.reduceEqDiff, Nat.reduceAdd, Nat.reduceLeDiff, g11, hm11, g1]; (first | done | rfl))
    | ((first | apply g_T | apply g_F | apply g_gT | apply g_gF); · intro q1_; (first | intro q2_ | have q2_ := q1_); simp only [go_sem, Nat.reduceEqDiff, Nat.reduceAdd, Nat.reduceLeDiff, g11, hm11, g1, q1_, q2_]; (first | done | rfl))
    | fail
    )
              refine s_callK (by simp only [go_sem, Nat.reduceEqDiff, Nat.reduceAdd, Nat.reduceLeDiff, hz3']) hv fun σ3 hmm3 hff3 => ?_
              have hne0 : ((T.length : Int) != (T.length : Int)) = false := bne_self_eq_false _
              have hlike := fun (q : Rh) (hq : q.Held) => a300 H.s H.k (.mk q []) ⟨q, [], hq, by simp, by simp⟩ (.mk q [])
              (repeat' first
    | refine w_seq ?_ | refine w_rg ?_ | refine wo_nil ?_ | refine g_skU ?_ | refine g_skT ?_ | refine g_skF ?_
    | ((first | apply s_plain | apply s_void | apply s_guard | apply g_goT | apply g_goF); · simp only [go_sem, Nat.reduceEqDiff, Nat.reduceAdd, Nat.reduceLeDiff, hTl, g5, g1, hal, hne0]; (first | done | rfl))
    | ((first | apply g_T | apply g_F | apply g_gT | apply g_gF); · intro q1_; (first | intro q2_ | have q2_ := q1_); simp only [go_sem, Nat.reduceEqDiff, Nat.reduceAdd, Nat.reduceLeDiff, hTl, g5, g1, hal, hne0, q1_, q2_]; (first | done | rfl))
    | (apply w_condX; · simp only [go_sem, Nat.reduceEqDiff, Nat.reduceAdd, Nat.reduceLeDiff, hTl, g5, g1, hal, hne0]; (first | done | rfl)); (first | refine wcd_T ?_ | refine wcd_F ?_)
    | refine w_skip ?_ | refine w_exit ?_ | refine w_ret ?_
    | fail
    )
              refine w_block (w_rangeF T.length (by omega) (fun i fr σ => True) ⟨by decide, rfl, rfl⟩ (fun _ _ _ _ h => ⟨h, h, h⟩) trivial (by simp only [go_sem, Nat.reduceEqDiff, Nat.reduceAdd, Nat.reduceLeDiff]; first | done | rfl) (by simp only [go_sem, Nat.reduceEqDiff, Nat.reduceAdd, Nat.reduceLeDiff, hTl, g5]; first | done | rfl) ?_ ?_)
              · rintro i fr4 σ4 hi _ hti hfr
                have f1_5 := hfr 5 rfl; have f1_12 := hfr 12 rfl; have f1_124 := hfr 124 rfl; try (simp only [go_sem, Nat.reduceEqDiff, Nat.reduceAdd, Nat.reduceLeDiff, g5] at f1_5); try (simp only [go_sem, Nat.reduceEqDiff, Nat.reduceAdd, Nat.reduceLeDiff, g5] at f1_12); try (simp only [go_sem, Nat.reduceEqDiff, Nat.reduceAdd, Nat.reduceLeDiff, g5] at f1_124)
                have hx := List.getElem?_eq_getElem hi
                have hy := tgFs_at hx
                have e1 : (0 : Int) ≤ (i : Int) ∧ (i : Int) < (T.length : Int) := by omega
                have hlk := hlike T[i].2 (hheld _ (List.getElem_mem hi))
                rw [likeT_refl, rt_eq] at hlk
                generalize T[i] = q at hy hlk
                obtain ⟨q1, q2⟩ := q
                unfold tgF rhd at hy
                unfold rhd at hlk
                have e3 : Rt.h (.mk q2 []) = q2 := rfl
                have e4 : rts (Rt.ks (.mk q2 [])) = [] := by show rts [] = []; rw [rts]
                rw [e3, e4] at hlk
                simp only [cells_agg] at hy
                refine w_block ?_
                (repeat' first
    | refine w_seq ?_ | refine w_rg ?_ | refine wo_nil ?_ | refine g_skU ?_ | refine g_skT ?_ | refine g_skF ?_
    | ((first | apply s_plain | apply s_void | apply s_guard | apply g_goT | apply g_goF); · simp only [go_sem, Nat.reduceEqDiff, Nat.reduceAdd, Nat.reduceLeDiff, f1_5, f1_12, f1_124, hti, e1, hTl, Int.toNat_natCast, hy, hlk, beq_self_eq_true, bne_self_eq_false]; (first | done | rfl))
    | ((first | apply g_T | apply g_F | apply g_gT | apply g_gF); · intro q1_; (first | intro q2_ | have q2_ := q1_); simp only [go_sem, Nat.reduceEqDiff, Nat.reduceAdd, Nat.reduceLeDiff, f1_5, f1_12, f1_124, hti, e1, hTl, Int.toNat_natCast, hy, hlk, beq_self_eq_true, bne_self_eq_false, q1_, q2_]; (first | done | rfl))
    | (apply w_condX; · simp only [go_sem, Nat.reduceEqDiff, Nat.reduceAdd, Nat.reduceLeDiff, f1_5, f1_12, f1_124, hti, e1, hTl, Int.toNat_natCast, hy, hlk, beq_self_eq_true, bne_self_eq_false]; (first | done | rfl)); (first | refine wcd_T ?_ | refine wcd_F ?_)
    | refine w_skip ?_ | refine w_exit ?_ | refine w_ret ?_
    | fail
    )
                try simp only [if_true]
              · rintro fr4 σ4 _ hfr
                skip
                try simp only [if_true]
                (repeat' first
    | refine w_seq ?_ | refine w_rg ?_ | refine wo_nil ?_ | refine g_skU ?_ | refine g_skT ?_ | refine g_skF ?_
    | ((first | apply s_plain | apply s_void | apply s_guard | apply g_goT | apply g_goF); · simp only [go_sem, Nat.reduceEqDiff, Nat.reduceAdd, Nat.reduceLeDiff]; (first | done | rfl))
    | ((first | apply g_T | apply g_F | apply g_gT | apply g_gF); · intro q1_; (first | intro q2_ | have q2_ := q1_); simp only [go_sem, Nat.reduceEqDiff, Nat.reduceAdd, Nat.reduceLeDiff, q1_, q2_]; (first | done | rfl))
    | (apply w_condX; · simp only [go_sem, Nat.reduceEqDiff, Nat.reduceAdd, Nat.reduceLeDiff]; (first | done | rfl)); (first | refine wcd_T ?_ | refine wcd_F ?_)
    | refine w_skip ?_ | refine w_exit ?_ | refine w_ret ?_
    | fail
    )
                exact ⟨by first | exact .inr rfl | exact .inr trivial | exact .inl rfl, by simp only [go_sem, Nat.reduceEqDiff, Nat.reduceAdd, Nat.reduceLeDiff, retOf, resOf]; first | done | rfl⟩
end

end
section
section
variable {P : Program}
def fieldsOf (P : Program) (t : TypeId) : List (Nat × TypeId) := match P.underlying t with
  | some (.struct fs) => fs.toList.map fun f => (f.offset, f.type)
  | _ => []
theorem Is.fields {t : TypeId} {ps : List PV} (h : Is P t ps) (ha : isAgg P t = true) : ps.length = P.cellsOf t ∧ ∀ q ∈ fieldsOf P t, Is P q.2 ((ps.drop q.1).take (P.cellsOf q.2)) := by
  unfold isAgg at ha
  split at ha
  · rename_i fs hu
    obtain ⟨h1, h2⟩ := h.st' hu
    refine ⟨h1, fun q hq => ?_⟩
    simp only [fieldsOf, hu, List.mem_map] at hq
    obtain ⟨f, hf, rfl⟩ := hq
    obtain ⟨i, hi⟩ := List.getElem?_of_mem hf
    exact h2 i f (by simpa using hi)
  · cases ha
theorem str_of {t : TypeId} {p : PV} (h : Is P t [p]) (hk : (match P.underlying t with | some .string => true | _ => false) = true) : ∃ s : ByteArray, p = .sc (.string s) ∧ s.size ≤ reachBytes := by
  split at hk
  · rename_i hu
    obtain ⟨s, hs, h2⟩ := h.str' hu
    simp only [List.cons.injEq, and_true] at hs
    exact ⟨s, hs, h2⟩
  · cases hk
end

end
end Go.Proofs.YthkjlpjogojfiaaDoorPv
