/-
Own texts of the proof, merged: part 3.
-/
import Derived.Test.YtdlfomiclkpibaaDoorPkBlockNotesB
namespace Go.Proofs.YtdlfomiclkpibaaDoorPv
open Go
set_option linter.unusedSimpArgs false
set_option linter.unusedVariables false
set_option maxHeartbeats 4000000
attribute [local go_sem ↓] e_mv e_pick e_bin e_eqs e_beq e_un e_cvi e_str e_s2b e_b2s e_box e_build e_bsl e_ld e_st e_nck e_mkf e_slcS e_slcL e_fa e_fld e_ia e_iaa e_ix e_ixa e_ext e_lenS e_lenL e_mnmx e_app e_appb e_bbx e_msl e_clr e_call e_callv pa_t pa_c pa_f slcSP_str hiOf_some hiOf_none loOf_some loOf_none set_eq set_ne
attribute [local go_sem] pv pv1 simple frOf_0 frOf_1 frOf_2 frOf_3 frOf_4 frOf_5 ne_eq not_false_eq_true if_true Bool.false_eq_true if_false pbin punary Option.map_some Option.bind_some pick_and pick_or opt_true Bool.true_and Bool.and_self Bool.and_true Bool.true_or Bool.false_or Bool.not_true Bool.not_false callE pcall_eq List.map_cons List.map_nil List.append_nil List.nil_append List.cons_append mapM_cons' mapM_nil' dep_eq fz_sc fz_sl fz_em fz_fn fz_fp fz_agg fz_tu fz_bx fz_ob Nat.lt_irrefl Nat.zero_lt_one Nat.lt_add_one flat clL cl Bool.or_true okc_sc okc_em okc_sl okc_ob okc_bx okc_fp okc_fn okc_agg okc_ifc cells_agg cells_sc cells_sl cells_em cells_ob cells_fn cells_bx cells_fp List.length_cons List.length_nil Nat.zero_add and_self true_and and_true new_m new_c put_m put_c nil_m nil_c deref List.getElem?_cons_zero List.getElem?_cons_succ List.drop_zero List.drop_succ_cons List.take_succ_cons List.take_zero Nat.le_refl false_and and_false decide_true decide_false lenP_em lenP_nil lenP_sl lenP_ob Int.ofNat_zero
set_option maxRecDepth 8000
/-- strings.CutSuffix -/
def d55 : Def := (.code 2 [.tmp 4, .tmp 5] (.seq (.rg false [⟨.some 4, .none, .mv (.c (.string ⟨#[]⟩))⟩, ⟨.some 5, .none, .mv (.c (.bool false))⟩]) (.seq (.rg false [⟨.some 6, .none, .mv (.t 0)⟩, ⟨.some 7, .none, .mv (.t 1)⟩, ⟨.some 8, .none, .call 72 .pure [.t 6, .t 7]⟩, ⟨.some 9, .none, .ext (.t 8) 0⟩, ⟨.some 10, .none, .ext (.t 8) 1⟩, ⟨.some 4, .none, .mv (.t 9)⟩, ⟨.some 5, .none, .mv (.t 10)⟩]) .ret)))
/-- internal/stringslite.CutSuffix -/
def d72 : Def := (.code 2 [.tmp 4, .tmp 5] (.seq (.rg false [⟨.some 4, .none, .mv (.c (.string ⟨#[]⟩))⟩, ⟨.some 5, .none, .mv (.c (.bool false))⟩]) (.seq (.seq (.rg false [⟨.some 6, .none, .mv (.t 0)⟩, ⟨.some 7, .none, .mv (.t 1)⟩, ⟨.some 8, .none, .call 45 .pure [.t 6, .t 7]⟩, ⟨.some 9, .none, .un .not (.t 8)⟩]) (.cond (.t 9) (.seq (.rg false [⟨.some 10, .none, .mv (.t 0)⟩, ⟨.some 4, .none, .mv (.t 10)⟩, ⟨.some 5, .none, .mv (.c (.bool false))⟩]) .ret) .skip)) (.seq (.rg false [⟨.some 11, .none, .mv (.t 0)⟩, ⟨.some 12, .none, .mv (.t 0)⟩, ⟨.some 13, .none, .lenS (.t 12)⟩, ⟨.some 14, .none, .mv (.t 1)⟩, ⟨.some 15, .none, .lenS (.t 14)⟩, ⟨.some 16, .none, .bin .sub (.t 13) (.t 15)⟩, ⟨.some 17, .none, .slcS (.t 11) .none (.some (.t 16))⟩, ⟨.some 4, .none, .mv (.t 17)⟩, ⟨.some 5, .none, .mv (.c (.bool true))⟩]) .ret))))
/-- internal/stringslite.HasSuffix -/
def d45 : Def := (.code 2 [.tmp 4] (.seq (.rg false [⟨.some 4, .none, .mv (.c (.bool false))⟩]) (.seq (.rg false [⟨.some 5, .none, .mv (.t 0)⟩, ⟨.some 6, .none, .lenS (.t 5)⟩, ⟨.some 7, .none, .mv (.t 1)⟩, ⟨.some 8, .none, .lenS (.t 7)⟩, ⟨.some 9, .none, .bin .geq (.t 6) (.t 8)⟩, ⟨.some 10, .none, .mv (.t 9)⟩, ⟨.some 11, .some (10, true), .mv (.t 0)⟩, ⟨.some 12, .some (10, true), .mv (.t 0)⟩, ⟨.some 13, .some (10, true), .lenS (.t 12)⟩, ⟨.some 14, .some (10, true), .mv (.t 1)⟩, ⟨.some 15, .some (10, true), .lenS (.t 14)⟩, ⟨.some 16, .some (10, true), .bin .sub (.t 13) (.t 15)⟩, ⟨.some 17, .some (10, true), .slcS (.t 11) (.some (.t 16)) .none⟩, ⟨.some 18, .some (10, true), .mv (.t 1)⟩, ⟨.some 19, .some (10, true), .bin .eql (.t 17) (.t 18)⟩, ⟨.some 20, .none, .pick (.t 10) (.t 19) (.c (.bool false))⟩, ⟨.some 4, .none, .mv (.t 20)⟩]) .ret)))
/-- transhipment/block.blank -/
def d40 : Def := (.code 1 [.tmp 2] (.seq (.rg false [⟨.some 2, .none, .mv (.c (.bool false))⟩]) (.seq (.rg false [⟨.some 4, .none, .mv (.t 0)⟩, ⟨.some 5, .none, .call 58 .pure [.t 4, .c (.string ⟨#[32, 9]⟩)]⟩, ⟨.some 3, .none, .mv (.t 5)⟩]) (.seq (.rg false [⟨.some 6, .none, .mv (.t 3)⟩, ⟨.some 7, .none, .bin .eql (.t 6) (.c (.string ⟨#[]⟩))⟩, ⟨.some 8, .none, .mv (.t 7)⟩, ⟨.some 9, .some (8, false), .mv (.t 3)⟩, ⟨.some 10, .some (8, false), .ix (.t 9) (.c (.int .i64 0))⟩, ⟨.some 11, .some (8, false), .bin .eql (.t 10) (.c (.int .u8 35))⟩, ⟨.some 12, .none, .pick (.t 8) (.c (.bool true)) (.t 11)⟩, ⟨.some 13, .none, .mv (.t 12)⟩, ⟨.some 14, .some (13, false), .mv (.t 3)⟩, ⟨.some 15, .some (13, false), .ix (.t 14) (.c (.int .i64 0))⟩, ⟨.some 16, .some (13, false), .bin .eql (.t 15) (.c (.int .u8 59))⟩, ⟨.some 17, .none, .pick (.t 13) (.c (.bool true)) (.t 16)⟩, ⟨.some 2, .none, .mv (.t 17)⟩]) .ret))))
/-- (*transhipment/block.reader).outside -/
def d38 : Def := (.code 2 [.tmp 4] (.seq (.rg false [⟨.some 4, .none, .mv (.c (.bool false))⟩]) (.seq (.rg false [⟨.some 10, .none, .mv (.t 1)⟩, ⟨.some 11, .none, .call 54 .pure [.t 10, .c (.string ⟨#[100, 101, 102, 105, 110, 101, 32]⟩)]⟩, ⟨.some 9, .none, .mv (.t 11)⟩, ⟨.some 12, .none, .ext (.t 9) 0⟩, ⟨.some 13, .none, .ext (.t 9) 1⟩, ⟨.some 5, .none, .mv (.t 12)⟩, ⟨.some 6, .none, .mv (.t 13)⟩]) (.seq (.rg false [⟨.some 15, .none, .mv (.t 5)⟩, ⟨.some 16, .none, .call 55 .pure [.t 15, .c (.string ⟨#[32, 123]⟩)]⟩, ⟨.some 14, .none, .mv (.t 16)⟩, ⟨.some 17, .none, .ext (.t 14) 0⟩, ⟨.some 18, .none, .ext (.t 14) 1⟩, ⟨.some 7, .none, .mv (.t 17)⟩, ⟨.some 8, .none, .mv (.t 18)⟩]) (.seq (.rg false [⟨.some 19, .none, .mv (.t 0)⟩, ⟨.some 20, .none, .mv (.t 0)⟩, ⟨.some 21, .none, .mv (.t 7)⟩, ⟨.some 22, .none, .build (.agg #[.string ⟨#[]⟩, .slice .none 0 0, .slice .none 0 0]) [(0, (1, .t 21))]⟩, ⟨.some 23, .none, .mv (.t 0)⟩, ⟨.some 24, .none, .mkf 56 [.t 23] []⟩, ⟨.some 25, .none, .nck (.t 19)⟩, ⟨.some 26, .none, .fa 1 (.t 25)⟩, ⟨.none, .none, .st 3 (.t 26) (.t 22)⟩, ⟨.some 27, .none, .nck (.t 20)⟩, ⟨.some 28, .none, .fa 4 (.t 27)⟩, ⟨.none, .none, .st 1 (.t 28) (.t 24)⟩]) (.seq (.rg false [⟨.some 29, .none, .mv (.t 6)⟩, ⟨.some 30, .none, .mv (.t 29)⟩, ⟨.some 31, .some (30, true), .mv (.t 8)⟩, ⟨.some 32, .none, .pick (.t 30) (.t 31) (.c (.bool false))⟩, ⟨.some 33, .none, .mv (.t 32)⟩, ⟨.some 34, .some (33, true), .mv (.t 7)⟩, ⟨.some 35, .some (33, true), .call 49 .pure [.t 34]⟩, ⟨.some 36, .none, .pick (.t 33) (.t 35) (.c (.bool false))⟩, ⟨.some 37, .none, .mv (.t 36)⟩, ⟨.some 38, .some (37, true), .mv (.t 0)⟩, ⟨.some 39, .some (37, true), .nck (.t 38)⟩, ⟨.some 40, .some (37, true), .fa 0 (.t 39)⟩, ⟨.some 41, .some (37, true), .ld .none (.t 40)⟩, ⟨.some 42, .some (37, true), .lenL (.t 41)⟩, ⟨.some 43, .some (37, true), .bin .lss (.t 42) (.c (.int .i64 64))⟩, ⟨.some 44, .none, .pick (.t 37) (.t 43) (.c (.bool false))⟩, ⟨.some 4, .none, .mv (.t 44)⟩]) .ret))))))
/-- (*transhipment/block.reader).within -/
def d56 : Def := (.code 2 [.tmp 4] (.seq (.rg false [⟨.some 4, .none, .mv (.c (.bool false))⟩]) (.seq (.seq (.rg false [⟨.some 10, .none, .mv (.t 1)⟩, ⟨.some 11, .none, .bin .eql (.t 10) (.c (.string ⟨#[125]⟩))⟩]) (.cond (.t 11) (.seq (.rg true [⟨.some 12, .none, .mv (.t 0)⟩, ⟨.some 13, .none, .mv (.t 0)⟩, ⟨.some 14, .none, .mv (.t 0)⟩, ⟨.some 15, .none, .nck (.t 14)⟩, ⟨.some 16, .none, .fa 0 (.t 15)⟩, ⟨.some 17, .none, .ld .none (.t 16)⟩, ⟨.some 18, .none, .mv (.t 0)⟩, ⟨.some 19, .none, .nck (.t 18)⟩, ⟨.some 20, .none, .fa 1 (.t 19)⟩, ⟨.some 21, .none, .ld (.some 3) (.t 20)⟩, ⟨.some 24, .none, .mv (.t 0)⟩, ⟨.some 25, .none, .mkf 38 [.t 24] []⟩, ⟨.some 22, .none, .bsl 3 (.agg #[.string ⟨#[]⟩, .slice .none 0 0, .slice .none 0 0]) 1 [(0, .t 21)]⟩, ⟨.some 23, .none, .app 3 64 false (.t 17) (.t 22)⟩, ⟨.some 26, .none, .nck (.t 12)⟩, ⟨.some 27, .none, .fa 0 (.t 26)⟩, ⟨.none, .none, .st 1 (.t 27) (.t 23)⟩, ⟨.some 28, .none, .nck (.t 13)⟩, ⟨.some 29, .none, .fa 4 (.t 28)⟩, ⟨.none, .none, .st 1 (.t 29) (.t 25)⟩]) (.seq (.rg false [⟨.some 30, .none, .mv (.t 0)⟩, ⟨.some 31, .none, .build (.agg #[.string ⟨#[]⟩, .slice .none 0 0, .slice .none 0 0]) []⟩, ⟨.some 32, .none, .nck (.t 30)⟩, ⟨.some 33, .none, .fa 1 (.t 32)⟩, ⟨.none, .none, .st 3 (.t 33) (.t 31)⟩]) (.seq (.rg false [⟨.some 4, .none, .mv (.c (.bool true))⟩]) .ret))) .skip)) (.seq (.rg false [⟨.some 35, .none, .mv (.t 1)⟩, ⟨.some 36, .none, .call 54 .pure [.t 35, .c (.string ⟨#[9]⟩)]⟩, ⟨.some 34, .none, .mv (.t 36)⟩, ⟨.some 37, .none, .ext (.t 34) 0⟩, ⟨.some 38, .none, .ext (.t 34) 1⟩, ⟨.some 5, .none, .mv (.t 37)⟩, ⟨.some 6, .none, .mv (.t 38)⟩]) (.seq (.rg false [⟨.some 40, .none, .mv (.t 5)⟩, ⟨.some 41, .none, .call 39 .pure [.t 40, .c (.string ⟨#[9]⟩)]⟩, ⟨.some 39, .none, .mv (.t 41)⟩, ⟨.some 42, .none, .ext (.t 39) 0⟩, ⟨.some 43, .none, .ext (.t 39) 1⟩, ⟨.some 44, .none, .ext (.t 39) 2⟩, ⟨.some 7, .none, .mv (.t 42)⟩, ⟨.some 8, .none, .mv (.t 43)⟩, ⟨.some 9, .none, .mv (.t 44)⟩]) (.seq (.seq (.rg false [⟨.some 45, .none, .mv (.t 6)⟩, ⟨.some 46, .none, .un .not (.t 45)⟩, ⟨.some 47, .none, .mv (.t 46)⟩, ⟨.some 48, .some (47, false), .mv (.t 9)⟩, ⟨.some 49, .some (47, false), .un .not (.t 48)⟩, ⟨.some 50, .none, .pick (.t 47) (.c (.bool true)) (.t 49)⟩, ⟨.some 51, .none, .mv (.t 50)⟩, ⟨.some 52, .some (51, false), .mv (.t 7)⟩, ⟨.some 53, .some (51, false), .call 49 .pure [.t 52]⟩, ⟨.some 54, .some (51, false), .un .not (.t 53)⟩, ⟨.some 55, .none, .pick (.t 51) (.c (.bool true)) (.t 54)⟩, ⟨.some 56, .none, .mv (.t 55)⟩, ⟨.some 57, .some (56, false), .mv (.t 8)⟩, ⟨.some 58, .some (56, false), .call 53 .pure [.t 57]⟩, ⟨.some 59, .some (56, false), .un .not (.t 58)⟩, ⟨.some 60, .none, .pick (.t 56) (.c (.bool true)) (.t 59)⟩, ⟨.some 61, .none, .mv (.t 60)⟩, ⟨.some 62, .some (61, false), .mv (.t 0)⟩, ⟨.some 63, .some (61, false), .nck (.t 62)⟩, ⟨.some 64, .some (61, false), .fa 1 (.t 63)⟩, ⟨.some 65, .some (61, false), .fa 1 (.t 64)⟩, ⟨.some 66, .some (61, false), .ld .none (.t 65)⟩, ⟨.some 67, .some (61, false), .mv (.t 7)⟩, ⟨.some 68, .some (61, false), .call 50 .pure [.t 66, .t 67]⟩, ⟨.some 69, .none, .pick (.t 61) (.c (.bool true)) (.t 68)⟩, ⟨.some 70, .none, .mv (.t 69)⟩, ⟨.some 71, .some (70, false), .mv (.t 0)⟩, ⟨.some 72, .some (70, false), .nck (.t 71)⟩, ⟨.some 73, .some (70, false), .fa 1 (.t 72)⟩, ⟨.some 74, .some (70, false), .fa 1 (.t 73)⟩, ⟨.some 75, .some (70, false), .ld .none (.t 74)⟩, ⟨.some 76, .some (70, false), .lenL (.t 75)⟩, ⟨.some 77, .some (70, false), .bin .eql (.t 76) (.c (.int .i64 64))⟩, ⟨.some 78, .none, .pick (.t 70) (.c (.bool true)) (.t 77)⟩]) (.cond (.t 78) (.seq (.rg false [⟨.some 4, .none, .mv (.c (.bool false))⟩]) .ret) .skip)) (.seq (.rg true [⟨.some 79, .none, .mv (.t 0)⟩, ⟨.some 80, .none, .mv (.t 0)⟩, ⟨.some 81, .none, .mv (.t 0)⟩, ⟨.some 82, .none, .nck (.t 81)⟩, ⟨.some 83, .none, .fa 1 (.t 82)⟩, ⟨.some 84, .none, .fa 1 (.t 83)⟩, ⟨.some 85, .none, .ld .none (.t 84)⟩, ⟨.some 86, .none, .mv (.t 7)⟩, ⟨.some 89, .none, .mv (.t 0)⟩, ⟨.some 90, .none, .nck (.t 89)⟩, ⟨.some 91, .none, .fa 1 (.t 90)⟩, ⟨.some 92, .none, .fa 2 (.t 91)⟩, ⟨.some 93, .none, .ld .none (.t 92)⟩, ⟨.some 94, .none, .mv (.t 8)⟩, ⟨.some 87, .none, .bsl 1 (.string ⟨#[]⟩) 1 [(0, .t 86)]⟩, ⟨.some 88, .none, .app 1 16 false (.t 85) (.t 87)⟩, ⟨.some 95, .none, .bsl 1 (.string ⟨#[]⟩) 1 [(0, .t 94)]⟩, ⟨.some 96, .none, .app 1 16 false (.t 93) (.t 95)⟩, ⟨.some 97, .none, .nck (.t 79)⟩, ⟨.some 98, .none, .fa 1 (.t 97)⟩, ⟨.some 99, .none, .fa 1 (.t 98)⟩, ⟨.none, .none, .st 1 (.t 99) (.t 88)⟩, ⟨.some 100, .none, .nck (.t 80)⟩, ⟨.some 101, .none, .fa 1 (.t 100)⟩, ⟨.some 102, .none, .fa 2 (.t 101)⟩, ⟨.none, .none, .st 1 (.t 102) (.t 96)⟩]) (.seq (.rg false [⟨.some 4, .none, .mv (.c (.bool true))⟩]) .ret))))))))
def ldm : List (Nat × Def) := [(55, d55), (72, d72), (45, d45)]
def ldn : List (Nat × Def) := [(58, .prim (pureF trimLV)), (40, d40)]
def ldo : List (Nat × Def) := [(38, d38), (56, d56)]
section
variable {env : Nat → Option Def} {fr : Fr} {σ σ' σ'' : St} {K : Fr → St → Prop} {Q : X → Fr → St → Prop} {p : PV} {bs : List UInt8}
theorem a45 (C : Has ldm env) {s t : List UInt8} (hs : s.length ≤ 4000000000) : AV env 45 [txt s, txt t] = some (.sc (.bool (t.isSuffixOf s))) := by
  refine AV_wp (C (45, d45) (by simp [ldm])) rfl ?_
  by_cases hle : t.length ≤ s.length
  · have hd : decide ((s.length : Int) ≥ (t.length : Int)) = true := by simp; omega
    have w1 : IntKind.i64.wrap ((s.length : Int) - (t.length : Int)) = ((s.length - t.length : Nat) : Int) := by rw [IntKind.wrap_i64]; omega
    have b1 : (0 : Int) ≤ ((s.length - t.length : Nat) : Int) ∧ ((s.length - t.length : Nat) : Int) ≤ (s.length : Int) := by omega
    have ht : s.take s.length = s := List.take_length
    (repeat' first
    | refine w_seq ?_ | refine w_rg ?_ | refine wo_nil ?_ | refine g_skU ?_
    | ((first | apply s_plain | apply s_void | apply s_guard); · simp only [go_sem, Nat.reduceEqDiff, Nat.reduceAdd, Nat.reduceLeDiff, ba_data, ba_size, ba_toList, ba_extract, ba_append, List.toList_toArray, hd, w1, bound, b1, Int.toNat_natCast, ht]; (first | done | rfl))
    | ((first | apply g_T | apply g_F); · intro hb; simp only [go_sem, Nat.reduceEqDiff, Nat.reduceAdd, Nat.reduceLeDiff, ba_data, ba_size, ba_toList, ba_extract, ba_append, List.toList_toArray, hd, w1, bound, b1, Int.toNat_natCast, ht, hb]; (first | done | rfl))
    | ((first | apply g_gT | apply g_gF); · intro hb hc; simp only [go_sem, Nat.reduceEqDiff, Nat.reduceAdd, Nat.reduceLeDiff, ba_data, ba_size, ba_toList, ba_extract, ba_append, List.toList_toArray, hd, w1, bound, b1, Int.toNat_natCast, ht, hb, hc]; (first | done | rfl))
    | refine g_skT ?_ | refine g_skF ?_
    | ((first | apply g_goT | apply g_goF); · simp only [go_sem, Nat.reduceEqDiff, Nat.reduceAdd, Nat.reduceLeDiff, ba_data, ba_size, ba_toList, ba_extract, ba_append, List.toList_toArray, hd, w1, bound, b1, Int.toNat_natCast, ht]; (first | done | rfl))
    | (refine w_condT ?_ ?_; · simp only [go_sem, Nat.reduceEqDiff, Nat.reduceAdd, Nat.reduceLeDiff, ba_data, ba_size, ba_toList, ba_extract, ba_append, List.toList_toArray, hd, w1, bound, b1, Int.toNat_natCast, ht]; (first | done | rfl))
    | (refine w_condF ?_ ?_; · simp only [go_sem, Nat.reduceEqDiff, Nat.reduceAdd, Nat.reduceLeDiff, ba_data, ba_size, ba_toList, ba_extract, ba_append, List.toList_toArray, hd, w1, bound, b1, Int.toNat_natCast, ht]; (first | done | rfl))
    | refine w_skip ?_ | refine w_exit ?_ | refine w_ret ?_
    | fail
    )
    have e : (s.drop (s.length - t.length) == t) = t.isSuffixOf s := by
      rw [Bool.eq_iff_iff, beq_iff_eq, List.isSuffixOf_iff_suffix, List.suffix_iff_eq_drop]
      exact ⟨fun h => h.symm, fun h => h.symm⟩
    exact ⟨by first | exact .inr rfl | exact .inr trivial | exact .inl rfl, by simp only [go_sem, Nat.reduceEqDiff, Nat.reduceAdd, Nat.reduceLeDiff, retOf, resOf, e]; first | done | rfl⟩
  · have hd : decide ((s.length : Int) ≥ (t.length : Int)) = false := by simp; omega
    (repeat' first
    | refine w_seq ?_ | refine w_rg ?_ | refine wo_nil ?_ | refine g_skU ?_
    | ((first | apply s_plain | apply s_void | apply s_guard); · simp only [go_sem, Nat.reduceEqDiff, Nat.reduceAdd, Nat.reduceLeDiff, ba_data, ba_size, ba_toList, ba_extract, ba_append, List.toList_toArray, hd]; (first | done | rfl))
    | ((first | apply g_T | apply g_F); · intro hb; simp only [go_sem, Nat.reduceEqDiff, Nat.reduceAdd, Nat.reduceLeDiff, ba_data, ba_size, ba_toList, ba_extract, ba_append, List.toList_toArray, hd, hb]; (first | done | rfl))
    | ((first | apply g_gT | apply g_gF); · intro hb hc; simp only [go_sem, Nat.reduceEqDiff, Nat.reduceAdd, Nat.reduceLeDiff, ba_data, ba_size, ba_toList, ba_extract, ba_append, List.toList_toArray, hd, hb, hc]; (first | done | rfl))
    | refine g_skT ?_ | refine g_skF ?_
    | ((first | apply g_goT | apply g_goF); · simp only [go_sem, Nat.reduceEqDiff, Nat.reduceAdd, Nat.reduceLeDiff, ba_data, ba_size, ba_toList, ba_extract, ba_append, List.toList_toArray, hd]; (first | done | rfl))
    | (refine w_condT ?_ ?_; · simp only [go_sem, Nat.reduceEqDiff, Nat.reduceAdd, Nat.reduceLeDiff, ba_data, ba_size, ba_toList, ba_extract, ba_append, List.toList_toArray, hd]; (first | done | rfl))
    | (refine w_condF ?_ ?_; · simp only [go_sem, Nat.reduceEqDiff, Nat.reduceAdd, Nat.reduceLeDiff, ba_data, ba_size, ba_toList, ba_extract, ba_append, List.toList_toArray, hd]; (first | done | rfl))
    | refine w_skip ?_ | refine w_exit ?_ | refine w_ret ?_
    | fail
    )
    have e : t.isSuffixOf s = false := by
      rw [Bool.eq_false_iff]
      intro h
      rw [List.isSuffixOf_iff_suffix] at h
      exact hle h.length_le
    exact ⟨by first | exact .inr rfl | exact .inr trivial | exact .inl rfl, by simp only [go_sem, Nat.reduceEqDiff, Nat.reduceAdd, Nat.reduceLeDiff, retOf, resOf, e]; first | done | rfl⟩
theorem a72 (C : Has ldm env) {s t : List UInt8} (hs : s.length ≤ 4000000000) : AV env 72 [txt s, txt t] = some (.tu [txt (cutSuf s t), .sc (.bool (t.isSuffixOf s))]) := by
  have h := a45 C (s := s) (t := t) hs
  refine AV_wp (C (72, d72) (by simp [ldm])) rfl ?_
  (repeat' first
    | refine w_seq ?_ | refine w_rg ?_ | refine wo_nil ?_ | refine g_skU ?_
    | ((first | apply s_plain | apply s_void | apply s_guard); · simp only [go_sem, Nat.reduceEqDiff, Nat.reduceAdd, Nat.reduceLeDiff, h]; (first | done | rfl))
    | ((first | apply g_T | apply g_F); · intro hb; simp only [go_sem, Nat.reduceEqDiff, Nat.reduceAdd, Nat.reduceLeDiff, h, hb]; (first | done | rfl))
    | ((first | apply g_gT | apply g_gF); · intro hb hc; simp only [go_sem, Nat.reduceEqDiff, Nat.reduceAdd, Nat.reduceLeDiff, h, hb, hc]; (first | done | rfl))
    | refine g_skT ?_ | refine g_skF ?_
    | ((first | apply g_goT | apply g_goF); · simp only [go_sem, Nat.reduceEqDiff, Nat.reduceAdd, Nat.reduceLeDiff, h]; (first | done | rfl))
    | fail
    )
  cases hp : t.isSuffixOf s with
  | false =>
    (repeat' first
    | refine w_seq ?_ | refine w_rg ?_ | refine wo_nil ?_ | refine g_skU ?_
    | ((first | apply s_plain | apply s_void | apply s_guard); · simp only [go_sem, Nat.reduceEqDiff, Nat.reduceAdd, Nat.reduceLeDiff]; (first | done | rfl))
    | ((first | apply g_T | apply g_F); · intro hb; simp only [go_sem, Nat.reduceEqDiff, Nat.reduceAdd, Nat.reduceLeDiff, hb]; (first | done | rfl))
    | ((first | apply g_gT | apply g_gF); · intro hb hc; simp only [go_sem, Nat.reduceEqDiff, Nat.reduceAdd, Nat.reduceLeDiff, hb, hc]; (first | done | rfl))
    | refine g_skT ?_ | refine g_skF ?_
    | ((first | apply g_goT | apply g_goF); · simp only [go_sem, Nat.reduceEqDiff, Nat.reduceAdd, Nat.reduceLeDiff]; (first | done | rfl))
    | (refine w_condT ?_ ?_; · simp only [go_sem, Nat.reduceEqDiff, Nat.reduceAdd, Nat.reduceLeDiff]; (first | done | rfl))
    | (refine w_condF ?_ ?_; · simp only [go_sem, Nat.reduceEqDiff, Nat.reduceAdd, Nat.reduceLeDiff]; (first | done | rfl))
    | refine w_skip ?_ | refine w_exit ?_ | refine w_ret ?_
    | fail
    )
    exact ⟨by first | exact .inr rfl | exact .inr trivial | exact .inl rfl, by simp only [go_sem, Nat.reduceEqDiff, Nat.reduceAdd, Nat.reduceLeDiff, retOf, resOf, cutSuf, hp]; first | done | rfl⟩
  | true =>
    have hle : t.length ≤ s.length := by
      rw [List.isSuffixOf_iff_suffix] at hp
      exact hp.length_le
    have w1 : IntKind.i64.wrap ((s.length : Int) - (t.length : Int)) = ((s.length - t.length : Nat) : Int) := by rw [IntKind.wrap_i64]; omega
    have b1 : (0 : Int) ≤ ((s.length - t.length : Nat) : Int) ∧ ((s.length - t.length : Nat) : Int) ≤ (s.length : Int) := by omega
    (repeat' first
    | refine w_seq ?_ | refine w_rg ?_ | refine wo_nil ?_ | refine g_skU ?_
    | ((first | apply s_plain | apply s_void | apply s_guard); · simp only [go_sem, Nat.reduceEqDiff, Nat.reduceAdd, Nat.reduceLeDiff, ba_data, ba_size, ba_toList, ba_extract, ba_append, List.toList_toArray, w1, bound, b1, Int.toNat_natCast, List.drop_zero]; (first | done | rfl))
    | ((first | apply g_T | apply g_F); · intro hb; simp only [go_sem, Nat.reduceEqDiff, Nat.reduceAdd, Nat.reduceLeDiff, ba_data, ba_size, ba_toList, ba_extract, ba_append, List.toList_toArray, w1, bound, b1, Int.toNat_natCast, List.drop_zero, hb]; (first | done | rfl))
    | ((first | apply g_gT | apply g_gF); · intro hb hc; simp only [go_sem, Nat.reduceEqDiff, Nat.reduceAdd, Nat.reduceLeDiff, ba_data, ba_size, ba_toList, ba_extract, ba_append, List.toList_toArray, w1, bound, b1, Int.toNat_natCast, List.drop_zero, hb, hc]; (first | done | rfl))
    | refine g_skT ?_ | refine g_skF ?_
    | ((first | apply g_goT | apply g_goF); · simp only [go_sem, Nat.reduceEqDiff, Nat.reduceAdd, Nat.reduceLeDiff, ba_data, ba_size, ba_toList, ba_extract, ba_append, List.toList_toArray, w1, bound, b1, Int.toNat_natCast, List.drop_zero]; (first | done | rfl))
    | (refine w_condT ?_ ?_; · simp only [go_sem, Nat.reduceEqDiff, Nat.reduceAdd, Nat.reduceLeDiff, ba_data, ba_size, ba_toList, ba_extract, ba_append, List.toList_toArray, w1, bound, b1, Int.toNat_natCast, List.drop_zero]; (first | done | rfl))
    | (refine w_condF ?_ ?_; · simp only [go_sem, Nat.reduceEqDiff, Nat.reduceAdd, Nat.reduceLeDiff, ba_data, ba_size, ba_toList, ba_extract, ba_append, List.toList_toArray, w1, bound, b1, Int.toNat_natCast, List.drop_zero]; (first | done | rfl))
    | refine w_skip ?_ | refine w_exit ?_ | refine w_ret ?_
    | fail
    )
    exact ⟨by first | exact .inr rfl | exact .inr trivial | exact .inl rfl, by simp only [go_sem, Nat.reduceEqDiff, Nat.reduceAdd, Nat.reduceLeDiff, retOf, resOf, cutSuf, hp]; first | done | rfl⟩
theorem a55 (C : Has ldm env) {s t : List UInt8} (hs : s.length ≤ 4000000000) : AV env 55 [txt s, txt t] = some (.tu [txt (cutSuf s t), .sc (.bool (t.isSuffixOf s))]) := by
  have h := a72 C (s := s) (t := t) hs
  refine AV_wp (C (55, d55) (by simp [ldm])) rfl ?_
  (repeat' first
    | refine w_seq ?_ | refine w_rg ?_ | refine wo_nil ?_ | refine g_skU ?_
    | ((first | apply s_plain | apply s_void | apply s_guard); · simp only [go_sem, Nat.reduceEqDiff, Nat.reduceAdd, Nat.reduceLeDiff, h]; (first | done | rfl))
    | ((first | apply g_T | apply g_F); · intro hb; simp only [go_sem, Nat.reduceEqDiff, Nat.reduceAdd, Nat.reduceLeDiff, h, hb]; (first | done | rfl))
    | ((first | apply g_gT | apply g_gF); · intro hb hc; simp only [go_sem, Nat.reduceEqDiff, Nat.reduceAdd, Nat.reduceLeDiff, h, hb, hc]; (first | done | rfl))
    | refine g_skT ?_ | refine g_skF ?_
    | ((first | apply g_goT | apply g_goF); · simp only [go_sem, Nat.reduceEqDiff, Nat.reduceAdd, Nat.reduceLeDiff, h]; (first | done | rfl))
    | (refine w_condT ?_ ?_; · simp only [go_sem, Nat.reduceEqDiff, Nat.reduceAdd, Nat.reduceLeDiff, h]; (first | done | rfl))
    | (refine w_condF ?_ ?_; · simp only [go_sem, Nat.reduceEqDiff, Nat.reduceAdd, Nat.reduceLeDiff, h]; (first | done | rfl))
    | refine w_skip ?_ | refine w_exit ?_ | refine w_ret ?_
    | fail
    )
  exact ⟨by first | exact .inr rfl | exact .inr trivial | exact .inl rfl, by simp only [go_sem, Nat.reduceEqDiff, Nat.reduceAdd, Nat.reduceLeDiff, retOf, resOf]; first | done | rfl⟩
theorem a58 (D : Has ldn env) {s t : List UInt8} (hs : s.length ≤ 4000000000) (ht : t.length ≤ 4000000000) (ha : (t.all fun b => decide (b.toNat < 128)) = true) : AV env 58 [txt s, txt t] = some (txt (Lib.trimLeftS s t)) := by
  have h := D (58, .prim (pureF trimLV)) (by simp [ldn])
  refine AV_of (σ := St.nil) (r := txt (Lib.trimLeftS s t)) ?_ rfl
  rw [EV_prim h]
  have hc : trimC ⟨s.toArray⟩ ⟨t.toArray⟩ = true := by
    unfold trimC
    rw [ba_size, ba_size, List.toList_toArray, ha]
    simp; omega
  simp only [pureF, mapM_cons', mapM_nil', scOf, Option.bind_some, trimLV, str2V, hc, if_true, List.toList_toArray, Option.map_some]
theorem trimL_sp (s : List UInt8) : Lib.trimLeftS s [32, 9] = s.dropWhile spB := by
  unfold Lib.trimLeftS
  congr 1
  funext c
  simp only [spB, List.contains_cons, List.contains_nil, Bool.or_false]
  all_goals trivial
theorem a40 (D : Has ldn env) {s : List UInt8} (hs : s.length ≤ 4000000000) : AV env 40 [txt s] = some (.sc (.bool (blankD s))) := by
  have h := a58 D (s := s) (t := [32, 9]) hs (by simp) (by decide)
  rw [trimL_sp] at h
  refine AV_wp (D (40, d40) (by simp [ldn])) rfl ?_
  unfold blankD
  generalize s.dropWhile spB = t at h
  cases t with
  | nil =>
    (repeat' first
    | refine w_seq ?_ | refine w_rg ?_ | refine wo_nil ?_ | refine g_skU ?_
    | ((first | apply s_plain | apply s_void | apply s_guard); · simp only [go_sem, Nat.reduceEqDiff, Nat.reduceAdd, Nat.reduceLeDiff, h, ba_data, ba_size, ba_toList, ba_extract, ba_append, List.toList_toArray, ba_nil, beq_self_eq_true]; (first | done | rfl))
    | ((first | apply g_T | apply g_F); · intro hb; simp only [go_sem, Nat.reduceEqDiff, Nat.reduceAdd, Nat.reduceLeDiff, h, ba_data, ba_size, ba_toList, ba_extract, ba_append, List.toList_toArray, ba_nil, beq_self_eq_true, hb]; (first | done | rfl))
    | ((first | apply g_gT | apply g_gF); · intro hb hc; simp only [go_sem, Nat.reduceEqDiff, Nat.reduceAdd, Nat.reduceLeDiff, h, ba_data, ba_size, ba_toList, ba_extract, ba_append, List.toList_toArray, ba_nil, beq_self_eq_true, hb, hc]; (first | done | rfl))
    | refine g_skT ?_ | refine g_skF ?_
    | ((first | apply g_goT | apply g_goF); · simp only [go_sem, Nat.reduceEqDiff, Nat.reduceAdd, Nat.reduceLeDiff, h, ba_data, ba_size, ba_toList, ba_extract, ba_append, List.toList_toArray, ba_nil, beq_self_eq_true]; (first | done | rfl))
    | (refine w_condT ?_ ?_; · simp only [go_sem, Nat.reduceEqDiff, Nat.reduceAdd, Nat.reduceLeDiff, h, ba_data, ba_size, ba_toList, ba_extract, ba_append, List.toList_toArray, ba_nil, beq_self_eq_true]; (first | done | rfl))
    | (refine w_condF ?_ ?_; · simp only [go_sem, Nat.reduceEqDiff, Nat.reduceAdd, Nat.reduceLeDiff, h, ba_data, ba_size, ba_toList, ba_extract, ba_append, List.toList_toArray, ba_nil, beq_self_eq_true]; (first | done | rfl))
    | refine w_skip ?_ | refine w_exit ?_ | refine w_ret ?_
    | fail
    )
    exact ⟨by first | exact .inr rfl | exact .inr trivial | exact .inl rfl, by simp only [go_sem, Nat.reduceEqDiff, Nat.reduceAdd, Nat.reduceLeDiff, retOf, resOf]; first | done | rfl⟩
  | cons c r =>
    have e1 : ((c :: r) == ([] : List UInt8)) = false := rfl
    (repeat' first
    | refine w_seq ?_ | refine w_rg ?_ | refine wo_nil ?_ | refine g_skU ?_
    | ((first | apply s_plain | apply s_void | apply s_guard); · simp only [go_sem, Nat.reduceEqDiff, Nat.reduceAdd, Nat.reduceLeDiff, h, ba_data, ba_size, ba_toList, ba_extract, ba_append, List.toList_toArray, ba_nil, e1, Int.toNat_zero, List.getElem?_cons_zero, u8_beq c 35 (z := 35) rfl, u8_beq c 59 (z := 59) rfl]; (first | done | rfl))
    | ((first | apply g_T | apply g_F); · intro hb; simp only [go_sem, Nat.reduceEqDiff, Nat.reduceAdd, Nat.reduceLeDiff, h, ba_data, ba_size, ba_toList, ba_extract, ba_append, List.toList_toArray, ba_nil, e1, Int.toNat_zero, List.getElem?_cons_zero, u8_beq c 35 (z := 35) rfl, u8_beq c 59 (z := 59) rfl, hb]; (first | done | rfl))
    | ((first | apply g_gT | apply g_gF); · intro hb hc; simp only [go_sem, Nat.reduceEqDiff, Nat.reduceAdd, Nat.reduceLeDiff, h, ba_data, ba_size, ba_toList, ba_extract, ba_append, List.toList_toArray, ba_nil, e1, Int.toNat_zero, List.getElem?_cons_zero, u8_beq c 35 (z := 35) rfl, u8_beq c 59 (z := 59) rfl, hb, hc]; (first | done | rfl))
    | refine g_skT ?_ | refine g_skF ?_
    | ((first | apply g_goT | apply g_goF); · simp only [go_sem, Nat.reduceEqDiff, Nat.reduceAdd, Nat.reduceLeDiff, h, ba_data, ba_size, ba_toList, ba_extract, ba_append, List.toList_toArray, ba_nil, e1, Int.toNat_zero, List.getElem?_cons_zero, u8_beq c 35 (z := 35) rfl, u8_beq c 59 (z := 59) rfl]; (first | done | rfl))
    | (refine w_condT ?_ ?_; · simp only [go_sem, Nat.reduceEqDiff, Nat.reduceAdd, Nat.reduceLeDiff, h, ba_data, ba_size, ba_toList, ba_extract, ba_append, List.toList_toArray, ba_nil, e1, Int.toNat_zero, List.getElem?_cons_zero, u8_beq c 35 (z := 35) rfl, u8_beq c 59 (z := 59) rfl]; (first | done | rfl))
    | (refine w_condF ?_ ?_; · simp only [go_sem, Nat.reduceEqDiff, Nat.reduceAdd, Nat.reduceLeDiff, h, ba_data, ba_size, ba_toList, ba_extract, ba_append, List.toList_toArray, ba_nil, e1, Int.toNat_zero, List.getElem?_cons_zero, u8_beq c 35 (z := 35) rfl, u8_beq c 59 (z := 59) rfl]; (first | done | rfl))
    | refine w_skip ?_ | refine w_exit ?_ | refine w_ret ?_
    | fail
    )
    exact ⟨by first | exact .inr rfl | exact .inr trivial | exact .inl rfl, by simp only [go_sem, Nat.reduceEqDiff, Nat.reduceAdd, Nat.reduceLeDiff, retOf, resOf]; first | done | rfl⟩
/-- Where the reader of blocks lies. -/
abbrev at0 : PV := .bx 2000014 0 5 0 0
/-- The reader of blocks. -/
def Rdr (σ : St) (r : Rs) : Prop := ∃ q ty pk pv nx, σ.m 2000014 0 = some ⟨5, [.agg [q, txt ty, pk, pv, nx]], true, true⟩ ∧ Fw σ 23 q r.all ∧ cellsOf q = [q] ∧ okc q = true ∧
  match r.now with
  | none => ty = [] ∧ nx = .fn 38 [at0] []
  | some d => ty = d.ty ∧ nx = .fn 56 [at0] [] ∧ Gat σ [88] 1 false pk (txts d.ks) ∧ Gat σ [96] 1 false pv (txts d.vs)
theorem Fw.lenP {s : Nat} {l : List Df} (h : Fw σ s p l) : lenP p = some l.length := by
  obtain ⟨_, xs, h1, h2, _⟩ := h
  rw [h1.lenP, h2]
theorem a38 (A : Has law env) (D : Has lcb env) (M : Has ldm env) (O : Has ldo env) {r : Rs} {s : List UInt8} (hr : Rdr σ r) (hn : r.now = none) (hs : s.length ≤ 8192) :
    ∃ σ', EV env 38 [at0, txt s] σ = some (.sc (.bool (outD r s).isSome), σ') ∧ ∀ r', outD r s = some r' → Rdr σ' r' := by
  have h54 := a54 D (s := s) (t := [100, 101, 102, 105, 110, 101, 32])
  have hl1 : (cutPre s [100, 101, 102, 105, 110, 101, 32]).length ≤ s.length := by unfold cutPre; split <;> simp
  have h55 := a55 M (s := cutPre s [100, 101, 102, 105, 110, 101, 32]) (t := [32, 123]) (by omega)
  have hl2 : (begK s).length ≤ s.length := by
    refine Nat.le_trans ?_ hl1
    show (cutSuf (cutPre s [100, 101, 102, 105, 110, 101, 32]) [32, 123]).length ≤ _
    unfold cutSuf; split <;> simp
  have h49 := a49t A (l := cutSuf (cutPre s [100, 101, 102, 105, 110, 101, 32]) [32, 123]) (show (begK s).length ≤ _ by omega)
  obtain ⟨q, ty, pk, pv, nx, hm, hw, ok1, ok2, hx⟩ := hr
  rw [hn] at hx
  obtain ⟨rfl, rfl⟩ := hx
  have hlp := hw.lenP
  obtain ⟨r1, τ, h1, rfl, h3⟩ := EV_wp' (σ := σ) (as := [at0, txt s]) (R := fun r1 τ => r1 = .sc (.bool (outD r s).isSome) ∧ ∀ r', outD r s = some r' → Rdr τ r') (O (38, d38) (by simp [ldo])) rfl (by
    (repeat' first
    | refine w_seq ?_ | refine w_rg ?_ | refine wo_nil ?_ | refine g_skU ?_
    | ((first | apply s_plain | apply s_void | apply s_guard); · simp only [go_sem, Nat.reduceEqDiff, Nat.reduceAdd, Nat.reduceLeDiff, h54, h55, h49, hm, hlp, ok1, ok2, splice, fillP, fillE, List.modify_zero_cons, List.replicate_succ, List.replicate_zero, List.set_cons_zero, List.drop_zero]; (first | done | rfl))
    | ((first | apply g_T | apply g_F); · intro hb; simp only [go_sem, Nat.reduceEqDiff, Nat.reduceAdd, Nat.reduceLeDiff, h54, h55, h49, hm, hlp, ok1, ok2, splice, fillP, fillE, List.modify_zero_cons, List.replicate_succ, List.replicate_zero, List.set_cons_zero, List.drop_zero, hb]; (first | done | rfl))
    | ((first | apply g_gT | apply g_gF); · intro hb hc; simp only [go_sem, Nat.reduceEqDiff, Nat.reduceAdd, Nat.reduceLeDiff, h54, h55, h49, hm, hlp, ok1, ok2, splice, fillP, fillE, List.modify_zero_cons, List.replicate_succ, List.replicate_zero, List.set_cons_zero, List.drop_zero, hb, hc]; (first | done | rfl))
    | refine g_skT ?_ | refine g_skF ?_
    | ((first | apply g_goT | apply g_goF); · simp only [go_sem, Nat.reduceEqDiff, Nat.reduceAdd, Nat.reduceLeDiff, h54, h55, h49, hm, hlp, ok1, ok2, splice, fillP, fillE, List.modify_zero_cons, List.replicate_succ, List.replicate_zero, List.set_cons_zero, List.drop_zero]; (first | done | rfl))
    | (refine w_condT ?_ ?_; · simp only [go_sem, Nat.reduceEqDiff, Nat.reduceAdd, Nat.reduceLeDiff, h54, h55, h49, hm, hlp, ok1, ok2, splice, fillP, fillE, List.modify_zero_cons, List.replicate_succ, List.replicate_zero, List.set_cons_zero, List.drop_zero]; (first | done | rfl))
    | (refine w_condF ?_ ?_; · simp only [go_sem, Nat.reduceEqDiff, Nat.reduceAdd, Nat.reduceLeDiff, h54, h55, h49, hm, hlp, ok1, ok2, splice, fillP, fillE, List.modify_zero_cons, List.replicate_succ, List.replicate_zero, List.set_cons_zero, List.drop_zero]; (first | done | rfl))
    | refine w_skip ?_ | refine w_exit ?_ | refine w_ret ?_
    | fail
    )
    have e : (([100, 101, 102, 105, 110, 101, 32] : List UInt8).isPrefixOf s && ([32, 123] : List UInt8).isSuffixOf (cutPre s [100, 101, 102, 105, 110, 101, 32]) && wordD (cutSuf (cutPre s [100, 101, 102, 105, 110, 101, 32]) [32, 123]) && decide ((r.all.length : Int) < 64)) = (outD r s).isSome := by
      show (begOk s && decide ((r.all.length : Int) < 64)) = _
      unfold outD
      by_cases h1 : begOk s = true <;> by_cases h2 : r.all.length < 64 <;> simp [h1, h2] <;> omega
    refine ⟨.inr rfl, _, by simp only [go_sem, Nat.reduceEqDiff, Nat.reduceAdd, Nat.reduceLeDiff, retOf, resOf, e], rfl, fun r' hr' => ?_⟩
    unfold outD at hr'
    split at hr'
    · simp only [Option.some.injEq] at hr'
      subst hr'
      refine ⟨q, begK s, .em, .em, .fn 56 [at0] [], (by simp only [go_sem, Nat.reduceEqDiff, Nat.reduceAdd, Nat.reduceLeDiff, splice, fillP, fillE, List.modify_zero_cons, List.replicate_succ, List.replicate_zero, List.set_cons_zero, List.drop_zero]; first | done | rfl), ?_, ok1, ok2, rfl, rfl, .em, .em⟩
      exact (hw.put (by decide) (by decide) hm _).put (x := ⟨5, [.agg [q, txt (begK s), .em, .em, .fn 38 [at0] []]], true, true⟩) (by decide) (by decide) (by simp only [go_sem, Nat.reduceEqDiff, Nat.reduceAdd, Nat.reduceLeDiff, splice, fillP, fillE, List.modify_zero_cons, List.replicate_succ, List.replicate_zero, List.set_cons_zero, List.drop_zero]; rfl) _
    · cases hr')
  exact ⟨τ, h1, h3⟩
theorem a56 (A : Has law env) (Da : Has lda env) (B : Has ldb env) (C : Has lca env) (D : Has lcb env) (O : Has ldo env) {r : Rs} {d : Df} {s : List UInt8} (hr : Rdr σ r) (hn : r.now = some d) (hall : r.all.length ≤ 64) (hkn : d.ks.length ≤ 64) (hvn : d.vs.length ≤ 64) (hs : s.length ≤ 8192) :
    ∃ σ', EV env 56 [at0, txt s] σ = some (.sc (.bool (inD r d s).isSome), σ') ∧ ∀ r', inD r d s = some r' → Rdr σ' r' := by
  obtain ⟨q, ty, pk, pv, nx, hm, hw, ok1, ok2, hx⟩ := hr
  rw [hn] at hx
  obtain ⟨rfl, rfl, hgk, hgv⟩ := hx
  obtain ⟨ok3, ok4⟩ := hgk.ok
  obtain ⟨ok5, ok6⟩ := hgv.ok
  obtain ⟨r1, τ, h1, rfl, h3⟩ := EV_wp' (σ := σ) (as := [at0, txt s]) (R := fun r1 τ => r1 = .sc (.bool (inD r d s).isSome) ∧ ∀ r', inD r d s = some r' → Rdr τ r') (O (56, d56) (by simp [ldo])) rfl (by
    by_cases hs1 : s = [125]
    · have hc : (s == [125]) = true := by simp [hs1]
      have hin : inD r d s = some ⟨r.all ++ [d], none⟩ := by unfold inD; rw [if_pos hs1]
      (repeat' first
    | refine w_seq ?_ | refine w_rg ?_ | refine wo_nil ?_ | refine g_skU ?_
    | ((first | apply s_plain | apply s_void | apply s_guard); · simp only [go_sem, Nat.reduceEqDiff, Nat.reduceAdd, Nat.reduceLeDiff, hc, hm, splice, fillP, fillE, List.modify_zero_cons, List.replicate_succ, List.replicate_zero, List.set_cons_zero, List.drop_zero, ba_data, ba_size, ba_toList, ba_extract, ba_append, List.toList_toArray, ok1, ok2, ok3, ok4, ok5, ok6]; (first | done | rfl))
    | ((first | apply g_T | apply g_F); · intro hb; simp only [go_sem, Nat.reduceEqDiff, Nat.reduceAdd, Nat.reduceLeDiff, hc, hm, splice, fillP, fillE, List.modify_zero_cons, List.replicate_succ, List.replicate_zero, List.set_cons_zero, List.drop_zero, ba_data, ba_size, ba_toList, ba_extract, ba_append, List.toList_toArray, ok1, ok2, ok3, ok4, ok5, ok6, hb]; (first | done | rfl))
    | ((first | apply g_gT | apply g_gF); · intro hb hc; simp only [go_sem, Nat.reduceEqDiff, Nat.reduceAdd, Nat.reduceLeDiff, hc, hm, splice, fillP, fillE, List.modify_zero_cons, List.replicate_succ, List.replicate_zero, List.set_cons_zero, List.drop_zero, ba_data, ba_size, ba_toList, ba_extract, ba_append, List.toList_toArray, ok1, ok2, ok3, ok4, ok5, ok6, hb, hc]; (first | done | rfl))
    | refine g_skT ?_ | refine g_skF ?_
    | ((first | apply g_goT | apply g_goF); · simp only [go_sem, Nat.reduceEqDiff, Nat.reduceAdd, Nat.reduceLeDiff, hc, hm, splice, fillP, fillE, List.modify_zero_cons, List.replicate_succ, List.replicate_zero, List.set_cons_zero, List.drop_zero, ba_data, ba_size, ba_toList, ba_extract, ba_append, List.toList_toArray, ok1, ok2, ok3, ok4, ok5, ok6]; (first | done | rfl))
    | (refine w_condT ?_ ?_; · simp only [go_sem, Nat.reduceEqDiff, Nat.reduceAdd, Nat.reduceLeDiff, hc, hm, splice, fillP, fillE, List.modify_zero_cons, List.replicate_succ, List.replicate_zero, List.set_cons_zero, List.drop_zero, ba_data, ba_size, ba_toList, ba_extract, ba_append, List.toList_toArray, ok1, ok2, ok3, ok4, ok5, ok6]; (first | done | rfl))
    | (refine w_condF ?_ ?_; · simp only [go_sem, Nat.reduceEqDiff, Nat.reduceAdd, Nat.reduceLeDiff, hc, hm, splice, fillP, fillE, List.modify_zero_cons, List.replicate_succ, List.replicate_zero, List.set_cons_zero, List.drop_zero, ba_data, ba_size, ba_toList, ba_extract, ba_append, List.toList_toArray, ok1, ok2, ok3, ok4, ok5, ok6]; (first | done | rfl))
    | refine w_skip ?_ | refine w_exit ?_ | refine w_ret ?_
    | fail
    )
      obtain ⟨hf, xs, hgx, hxl, hxr⟩ := hw
      refine s_gatS (d := 23) (t := 17) (x := .t 22) (xs := xs) (e := .agg [txt d.ty, pk, pv]) (by simp only [go_sem, Nat.reduceEqDiff, Nat.reduceAdd, Nat.reduceLeDiff]; exact hgx.new _) (hf.new _ _) (by simp only [go_sem, Nat.reduceEqDiff, Nat.reduceAdd, Nat.reduceLeDiff, srcOf, elemsOf, List.drop_zero]) rfl rfl (by rw [hxl]; omega) ?_
      intro p2 σ2 hg2 hs2 hf2 hm2 hc2
      have hm3 : σ2.m 2000014 0 = some ⟨5, [.agg [q, txt d.ty, pk, pv, .fn 56 [at0] []]], true, true⟩ := by rw [hm2 _ _ (by decide)]; simp only [go_sem, Nat.reduceEqDiff, Nat.reduceAdd, Nat.reduceLeDiff, hm]
      obtain ⟨ok7, ok8⟩ := hg2.ok
      (repeat' first
    | refine w_seq ?_ | refine w_rg ?_ | refine wo_nil ?_ | refine g_skU ?_
    | ((first | apply s_plain | apply s_void | apply s_guard); · simp only [go_sem, Nat.reduceEqDiff, Nat.reduceAdd, Nat.reduceLeDiff, hm3, splice, fillP, fillE, List.modify_zero_cons, List.replicate_succ, List.replicate_zero, List.set_cons_zero, List.drop_zero, ok7, ok8]; (first | done | rfl))
    | ((first | apply g_T | apply g_F); · intro hb; simp only [go_sem, Nat.reduceEqDiff, Nat.reduceAdd, Nat.reduceLeDiff, hm3, splice, fillP, fillE, List.modify_zero_cons, List.replicate_succ, List.replicate_zero, List.set_cons_zero, List.drop_zero, ok7, ok8, hb]; (first | done | rfl))
    | ((first | apply g_gT | apply g_gF); · intro hb hc; simp only [go_sem, Nat.reduceEqDiff, Nat.reduceAdd, Nat.reduceLeDiff, hm3, splice, fillP, fillE, List.modify_zero_cons, List.replicate_succ, List.replicate_zero, List.set_cons_zero, List.drop_zero, ok7, ok8, hb, hc]; (first | done | rfl))
    | refine g_skT ?_ | refine g_skF ?_
    | ((first | apply g_goT | apply g_goF); · simp only [go_sem, Nat.reduceEqDiff, Nat.reduceAdd, Nat.reduceLeDiff, hm3, splice, fillP, fillE, List.modify_zero_cons, List.replicate_succ, List.replicate_zero, List.set_cons_zero, List.drop_zero, ok7, ok8]; (first | done | rfl))
    | (refine w_condT ?_ ?_; · simp only [go_sem, Nat.reduceEqDiff, Nat.reduceAdd, Nat.reduceLeDiff, hm3, splice, fillP, fillE, List.modify_zero_cons, List.replicate_succ, List.replicate_zero, List.set_cons_zero, List.drop_zero, ok7, ok8]; (first | done | rfl))
    | (refine w_condF ?_ ?_; · simp only [go_sem, Nat.reduceEqDiff, Nat.reduceAdd, Nat.reduceLeDiff, hm3, splice, fillP, fillE, List.modify_zero_cons, List.replicate_succ, List.replicate_zero, List.set_cons_zero, List.drop_zero, ok7, ok8]; (first | done | rfl))
    | refine w_skip ?_ | refine w_exit ?_ | refine w_ret ?_
    | fail
    )
      refine ⟨.inr rfl, _, by simp only [go_sem, Nat.reduceEqDiff, Nat.reduceAdd, Nat.reduceLeDiff, retOf, resOf, hin, Option.isSome_some], rfl, fun r' hr' => ?_⟩
      rw [hin] at hr'
      simp only [Option.some.injEq] at hr'
      subst hr'
      have hss : SubS σ σ2 := ((SubS.refl σ).new hf _ _).trans hs2
      have e2 : dfs (r.all ++ [d]) = dfs r.all ++ [df d] := by simp [dfs]
      have hW : Fw σ2 23 p2 (r.all ++ [d]) := by
        refine ⟨hf2, _, hg2, by simp [hxl], ?_⟩
        rw [e2]
        refine mapM_snoc (mapM_imp (rd_sub hss 3) hxr) ?_
        have r1 := rd_sub hss 2 _ _ (gat_rd hgk (by decide) (txts_rd σ 0 _))
        have r2 := rd_sub hss 2 _ _ (gat_rd hgv (by decide) (txts_rd σ 0 _))
        have r3 : rd σ2 2 (txt d.ty) = some (txt d.ty) := rfl
        rw [rd_agg]
        simp only [mapM_cons', mapM_nil', r1, r2, r3, Option.bind_some, Option.map_some]
        rfl
      refine ⟨p2, [], .em, .em, .fn 38 [at0] [], (by simp only [go_sem, Nat.reduceEqDiff, Nat.reduceAdd, Nat.reduceLeDiff, splice, fillP, fillE, List.modify_zero_cons, List.replicate_succ, List.replicate_zero, List.set_cons_zero, List.drop_zero]; first | done | rfl), ?_, ok7, ok8, rfl, rfl⟩
      have w1 := hW.put (o := 2000014) (g := 0) (by decide) (by decide) hm3 (some ⟨5, [.agg [p2, txt d.ty, pk, pv, .fn 56 [at0] []]], true, true⟩)
      have w2 := w1.put (o := 2000014) (g := 0) (x := ⟨5, [.agg [p2, txt d.ty, pk, pv, .fn 56 [at0] []]], true, true⟩) (by decide) (by decide) (by simp only [put_m, and_self, if_true]) (some ⟨5, [.agg [p2, txt d.ty, pk, pv, .fn 38 [at0] []]], true, true⟩)
      exact w2.put (o := 2000014) (g := 0) (x := ⟨5, [.agg [p2, txt d.ty, pk, pv, .fn 38 [at0] []]], true, true⟩) (by decide) (by decide) (by simp only [put_m, and_self, if_true]) _
    · have hc : (s == [125]) = false := by simpa using hs1
      have hin := inD_iff r d s hs1
      have h54 := a54 D (s := s) (t := [9])
      have hl1 : (cutPre s [9]).length ≤ s.length := by unfold cutPre; split <;> simp
      have h39 := a39 C (s := cutPre s [9]) (t := [9]) (by omega) (by simp)
      have hl2 : (keyK s).length ≤ s.length ∧ (keyV s).length ≤ s.length := by
        unfold keyK keyV Lib.cut
        split
        · simp only [List.length_take, List.length_drop]; omega
        · simp only [List.length_nil]; omega
      rw [show (Lib.cut (cutPre s [9]) [9]).1 = keyK s from rfl, show (Lib.cut (cutPre s [9]) [9]).2.1 = keyV s from rfl] at h39
      have h49 := a49t A (l := keyK s) (by omega)
      have h53 := a53 A Da (l := keyV s) (by omega)
      have h50 := a50t B (l := d.ks) (by omega) (keyK s)
      have hfz := hgk.fz (txts_fz σ 10 _)
      have hlk := hgk.lenP
      have hlv := hgv.lenP
      rw [txts_len] at hlk hlv
      (repeat' first
    | refine w_seq ?_ | refine w_rg ?_ | refine wo_nil ?_ | refine g_skU ?_
    | ((first | apply s_plain | apply s_void | apply s_guard); · simp only [go_sem, Nat.reduceEqDiff, Nat.reduceAdd, Nat.reduceLeDiff, hc, hm, splice, fillP, fillE, List.modify_zero_cons, List.replicate_succ, List.replicate_zero, List.set_cons_zero, List.drop_zero, ba_data, ba_size, ba_toList, ba_extract, ba_append, List.toList_toArray]; (first | done | rfl))
    | ((first | apply g_T | apply g_F); · intro hb; simp only [go_sem, Nat.reduceEqDiff, Nat.reduceAdd, Nat.reduceLeDiff, hc, hm, splice, fillP, fillE, List.modify_zero_cons, List.replicate_succ, List.replicate_zero, List.set_cons_zero, List.drop_zero, ba_data, ba_size, ba_toList, ba_extract, ba_append, List.toList_toArray, hb]; (first | done | rfl))
    | ((first | apply g_gT | apply g_gF); · intro hb hc; simp only [go_sem, Nat.reduceEqDiff, Nat.reduceAdd, Nat.reduceLeDiff, hc, hm, splice, fillP, fillE, List.modify_zero_cons, List.replicate_succ, List.replicate_zero, List.set_cons_zero, List.drop_zero, ba_data, ba_size, ba_toList, ba_extract, ba_append, List.toList_toArray, hb, hc]; (first | done | rfl))
    | refine g_skT ?_ | refine g_skF ?_
    | ((first | apply g_goT | apply g_goF); · simp only [go_sem, Nat.reduceEqDiff, Nat.reduceAdd, Nat.reduceLeDiff, hc, hm, splice, fillP, fillE, List.modify_zero_cons, List.replicate_succ, List.replicate_zero, List.set_cons_zero, List.drop_zero, ba_data, ba_size, ba_toList, ba_extract, ba_append, List.toList_toArray]; (first | done | rfl))
    | (refine w_condT ?_ ?_; · simp only [go_sem, Nat.reduceEqDiff, Nat.reduceAdd, Nat.reduceLeDiff, hc, hm, splice, fillP, fillE, List.modify_zero_cons, List.replicate_succ, List.replicate_zero, List.set_cons_zero, List.drop_zero, ba_data, ba_size, ba_toList, ba_extract, ba_append, List.toList_toArray]; (first | done | rfl))
    | (refine w_condF ?_ ?_; · simp only [go_sem, Nat.reduceEqDiff, Nat.reduceAdd, Nat.reduceLeDiff, hc, hm, splice, fillP, fillE, List.modify_zero_cons, List.replicate_succ, List.replicate_zero, List.set_cons_zero, List.drop_zero, ba_data, ba_size, ba_toList, ba_extract, ba_append, List.toList_toArray]; (first | done | rfl))
    | refine w_skip ?_ | refine w_exit ?_ | refine w_ret ?_
    | fail
    )
      (repeat' first
    | refine w_seq ?_ | refine w_rg ?_ | refine wo_nil ?_ | refine g_skU ?_
    | ((first | apply s_plain | apply s_void | apply s_guard); · simp only [go_sem, Nat.reduceEqDiff, Nat.reduceAdd, Nat.reduceLeDiff, h54, h39, h49, h53, h50, hfz, hlk, hm, splice, fillP, fillE, List.modify_zero_cons, List.replicate_succ, List.replicate_zero, List.set_cons_zero, List.drop_zero, ba_data, ba_size, ba_toList, ba_extract, ba_append, List.toList_toArray, ok1, ok2, ok3, ok4, ok5, ok6]; (first | done | rfl))
    | ((first | apply g_T | apply g_F); · intro hb; simp only [go_sem, Nat.reduceEqDiff, Nat.reduceAdd, Nat.reduceLeDiff, h54, h39, h49, h53, h50, hfz, hlk, hm, splice, fillP, fillE, List.modify_zero_cons, List.replicate_succ, List.replicate_zero, List.set_cons_zero, List.drop_zero, ba_data, ba_size, ba_toList, ba_extract, ba_append, List.toList_toArray, ok1, ok2, ok3, ok4, ok5, ok6, hb]; (first | done | rfl))
    | ((first | apply g_gT | apply g_gF); · intro hb hc; simp only [go_sem, Nat.reduceEqDiff, Nat.reduceAdd, Nat.reduceLeDiff, h54, h39, h49, h53, h50, hfz, hlk, hm, splice, fillP, fillE, List.modify_zero_cons, List.replicate_succ, List.replicate_zero, List.set_cons_zero, List.drop_zero, ba_data, ba_size, ba_toList, ba_extract, ba_append, List.toList_toArray, ok1, ok2, ok3, ok4, ok5, ok6, hb, hc]; (first | done | rfl))
    | refine g_skT ?_ | refine g_skF ?_
    | ((first | apply g_goT | apply g_goF); · simp only [go_sem, Nat.reduceEqDiff, Nat.reduceAdd, Nat.reduceLeDiff, h54, h39, h49, h53, h50, hfz, hlk, hm, splice, fillP, fillE, List.modify_zero_cons, List.replicate_succ, List.replicate_zero, List.set_cons_zero, List.drop_zero, ba_data, ba_size, ba_toList, ba_extract, ba_append, List.toList_toArray, ok1, ok2, ok3, ok4, ok5, ok6]; (first | done | rfl))
    | fail
    )
      have e : ((!([9] : List UInt8).isPrefixOf s || !(Lib.cut (cutPre s [9]) [9]).2.2 || !wordD (keyK s) || !valD (keyV s) || d.ks.contains (keyK s)) || ((d.ks.length : Int) == 64)) = !(keyOk s && !d.ks.contains (keyK s) && !decide (d.ks.length = 64)) := by
        unfold keyOk
        have : ((d.ks.length : Int) == 64) = decide (d.ks.length = 64) := by rw [Bool.eq_iff_iff]; simp; omega
        rw [this]
        simp
      refine w_condB (b := !(keyOk s && !d.ks.contains (keyK s) && !decide (d.ks.length = 64))) (by simp only [go_sem, Nat.reduceEqDiff, Nat.reduceAdd, Nat.reduceLeDiff]; exact congrArg (fun b => PV.sc (.bool b)) e) (fun hb => ?_) (fun hb => ?_)
      · rw [if_pos hb] at hin
        (repeat' first
    | refine w_seq ?_ | refine w_rg ?_ | refine wo_nil ?_ | refine g_skU ?_
    | ((first | apply s_plain | apply s_void | apply s_guard); · simp only [go_sem, Nat.reduceEqDiff, Nat.reduceAdd, Nat.reduceLeDiff]; (first | done | rfl))
    | ((first | apply g_T | apply g_F); · intro hb; simp only [go_sem, Nat.reduceEqDiff, Nat.reduceAdd, Nat.reduceLeDiff, hb]; (first | done | rfl))
    | ((first | apply g_gT | apply g_gF); · intro hb hc; simp only [go_sem, Nat.reduceEqDiff, Nat.reduceAdd, Nat.reduceLeDiff, hb, hc]; (first | done | rfl))
    | refine g_skT ?_ | refine g_skF ?_
    | ((first | apply g_goT | apply g_goF); · simp only [go_sem, Nat.reduceEqDiff, Nat.reduceAdd, Nat.reduceLeDiff]; (first | done | rfl))
    | (refine w_condT ?_ ?_; · simp only [go_sem, Nat.reduceEqDiff, Nat.reduceAdd, Nat.reduceLeDiff]; (first | done | rfl))
    | (refine w_condF ?_ ?_; · simp only [go_sem, Nat.reduceEqDiff, Nat.reduceAdd, Nat.reduceLeDiff]; (first | done | rfl))
    | refine w_skip ?_ | refine w_exit ?_ | refine w_ret ?_
    | fail
    )
        refine ⟨.inr rfl, _, by simp only [go_sem, Nat.reduceEqDiff, Nat.reduceAdd, Nat.reduceLeDiff, retOf, resOf, hin, Option.isSome_none], rfl, fun r' hr' => ?_⟩
        rw [hin] at hr'; cases hr'
      · rw [if_neg (by rw [hb]; simp)] at hin
        (repeat' first
    | refine w_seq ?_ | refine w_rg ?_ | refine wo_nil ?_ | refine g_skU ?_
    | ((first | apply s_plain | apply s_void | apply s_guard); · simp only [go_sem, Nat.reduceEqDiff, Nat.reduceAdd, Nat.reduceLeDiff, h54, h39, hm, splice, fillP, fillE, List.modify_zero_cons, List.replicate_succ, List.replicate_zero, List.set_cons_zero, List.drop_zero, ba_data, ba_size, ba_toList, ba_extract, ba_append, List.toList_toArray, ok1, ok2, ok3, ok4, ok5, ok6]; (first | done | rfl))
    | ((first | apply g_T | apply g_F); · intro hb; simp only [go_sem, Nat.reduceEqDiff, Nat.reduceAdd, Nat.reduceLeDiff, h54, h39, hm, splice, fillP, fillE, List.modify_zero_cons, List.replicate_succ, List.replicate_zero, List.set_cons_zero, List.drop_zero, ba_data, ba_size, ba_toList, ba_extract, ba_append, List.toList_toArray, ok1, ok2, ok3, ok4, ok5, ok6, hb]; (first | done | rfl))
    | ((first | apply g_gT | apply g_gF); · intro hb hc; simp only [go_sem, Nat.reduceEqDiff, Nat.reduceAdd, Nat.reduceLeDiff, h54, h39, hm, splice, fillP, fillE, List.modify_zero_cons, List.replicate_succ, List.replicate_zero, List.set_cons_zero, List.drop_zero, ba_data, ba_size, ba_toList, ba_extract, ba_append, List.toList_toArray, ok1, ok2, ok3, ok4, ok5, ok6, hb, hc]; (first | done | rfl))
    | refine g_skT ?_ | refine g_skF ?_
    | ((first | apply g_goT | apply g_goF); · simp only [go_sem, Nat.reduceEqDiff, Nat.reduceAdd, Nat.reduceLeDiff, h54, h39, hm, splice, fillP, fillE, List.modify_zero_cons, List.replicate_succ, List.replicate_zero, List.set_cons_zero, List.drop_zero, ba_data, ba_size, ba_toList, ba_extract, ba_append, List.toList_toArray, ok1, ok2, ok3, ok4, ok5, ok6]; (first | done | rfl))
    | (refine w_condT ?_ ?_; · simp only [go_sem, Nat.reduceEqDiff, Nat.reduceAdd, Nat.reduceLeDiff, h54, h39, hm, splice, fillP, fillE, List.modify_zero_cons, List.replicate_succ, List.replicate_zero, List.set_cons_zero, List.drop_zero, ba_data, ba_size, ba_toList, ba_extract, ba_append, List.toList_toArray, ok1, ok2, ok3, ok4, ok5, ok6]; (first | done | rfl))
    | (refine w_condF ?_ ?_; · simp only [go_sem, Nat.reduceEqDiff, Nat.reduceAdd, Nat.reduceLeDiff, h54, h39, hm, splice, fillP, fillE, List.modify_zero_cons, List.replicate_succ, List.replicate_zero, List.set_cons_zero, List.drop_zero, ba_data, ba_size, ba_toList, ba_extract, ba_append, List.toList_toArray, ok1, ok2, ok3, ok4, ok5, ok6]; (first | done | rfl))
    | refine w_skip ?_ | refine w_exit ?_ | refine w_ret ?_
    | fail
    )
        refine s_gatS (d := 88) (t := 85) (x := .t 87) (xs := txts d.ks) (e := txt (keyK s)) (by simp only [go_sem, Nat.reduceEqDiff, Nat.reduceAdd, Nat.reduceLeDiff]; exact hgk.new _) (hw.f.new _ _) (by simp only [go_sem, Nat.reduceEqDiff, Nat.reduceAdd, Nat.reduceLeDiff, srcOf, elemsOf, List.drop_zero]) rfl rfl (by rw [txts_len]; omega) ?_
        intro p2 σ2 hg2 hs2 hf2 hm2 hc2
        have hm3 : σ2.m 2000014 0 = some ⟨5, [.agg [q, txt d.ty, pk, pv, .fn 56 [at0] []]], true, true⟩ := by rw [hm2 _ _ (by decide)]; simp only [go_sem, Nat.reduceEqDiff, Nat.reduceAdd, Nat.reduceLeDiff, hm]
        have hw2 := (hw.new 87 ⟨1, [txt (keyK s)], true, true⟩).step hs2 hf2 (fun g _ => hm2 _ _ (by decide)) (by rw [hc2 _ (by decide)]; exact Nat.le_refl _)
        have hv2 : Gat σ2 [96] 1 false pv (txts d.vs) := (hgv.new (d := 87) ⟨1, [txt (keyK s)], true, true⟩).same (fun g _ => hm2 _ _ (by decide)) (by rw [hc2 _ (by decide)]; exact Nat.le_refl _)
        obtain ⟨ok7, ok8⟩ := hg2.ok
        (repeat' first
    | refine w_seq ?_ | refine w_rg ?_ | refine wo_nil ?_ | refine g_skU ?_
    | ((first | apply s_plain | apply s_void | apply s_guard); · simp only [go_sem, Nat.reduceEqDiff, Nat.reduceAdd, Nat.reduceLeDiff, hm3, splice, fillP, fillE, List.modify_zero_cons, List.replicate_succ, List.replicate_zero, List.set_cons_zero, List.drop_zero, ba_data, ba_size, ba_toList, ba_extract, ba_append, List.toList_toArray]; (first | done | rfl))
    | ((first | apply g_T | apply g_F); · intro hb; simp only [go_sem, Nat.reduceEqDiff, Nat.reduceAdd, Nat.reduceLeDiff, hm3, splice, fillP, fillE, List.modify_zero_cons, List.replicate_succ, List.replicate_zero, List.set_cons_zero, List.drop_zero, ba_data, ba_size, ba_toList, ba_extract, ba_append, List.toList_toArray, hb]; (first | done | rfl))
    | ((first | apply g_gT | apply g_gF); · intro hb hc; simp only [go_sem, Nat.reduceEqDiff, Nat.reduceAdd, Nat.reduceLeDiff, hm3, splice, fillP, fillE, List.modify_zero_cons, List.replicate_succ, List.replicate_zero, List.set_cons_zero, List.drop_zero, ba_data, ba_size, ba_toList, ba_extract, ba_append, List.toList_toArray, hb, hc]; (first | done | rfl))
    | refine g_skT ?_ | refine g_skF ?_
    | ((first | apply g_goT | apply g_goF); · simp only [go_sem, Nat.reduceEqDiff, Nat.reduceAdd, Nat.reduceLeDiff, hm3, splice, fillP, fillE, List.modify_zero_cons, List.replicate_succ, List.replicate_zero, List.set_cons_zero, List.drop_zero, ba_data, ba_size, ba_toList, ba_extract, ba_append, List.toList_toArray]; (first | done | rfl))
    | (refine w_condT ?_ ?_; · simp only [go_sem, Nat.reduceEqDiff, Nat.reduceAdd, Nat.reduceLeDiff, hm3, splice, fillP, fillE, List.modify_zero_cons, List.replicate_succ, List.replicate_zero, List.set_cons_zero, List.drop_zero, ba_data, ba_size, ba_toList, ba_extract, ba_append, List.toList_toArray]; (first | done | rfl))
    | (refine w_condF ?_ ?_; · simp only [go_sem, Nat.reduceEqDiff, Nat.reduceAdd, Nat.reduceLeDiff, hm3, splice, fillP, fillE, List.modify_zero_cons, List.replicate_succ, List.replicate_zero, List.set_cons_zero, List.drop_zero, ba_data, ba_size, ba_toList, ba_extract, ba_append, List.toList_toArray]; (first | done | rfl))
    | refine w_skip ?_ | refine w_exit ?_ | refine w_ret ?_
    | fail
    )
        refine s_gatS (d := 96) (t := 93) (x := .t 95) (xs := txts d.vs) (e := txt (keyV s)) (by simp only [go_sem, Nat.reduceEqDiff, Nat.reduceAdd, Nat.reduceLeDiff]; exact hv2.new _) (hf2.new _ _) (by simp only [go_sem, Nat.reduceEqDiff, Nat.reduceAdd, Nat.reduceLeDiff, srcOf, elemsOf, List.drop_zero]) rfl rfl (by rw [txts_len]; omega) ?_
        intro p3 σ3 hg3 hs3 hf3 hm4 hc3
        have hm5 : σ3.m 2000014 0 = some ⟨5, [.agg [q, txt d.ty, pk, pv, .fn 56 [at0] []]], true, true⟩ := by rw [hm4 _ _ (by decide)]; simp only [go_sem, Nat.reduceEqDiff, Nat.reduceAdd, Nat.reduceLeDiff, hm3]
        have hw3 := (hw2.new 95 ⟨1, [txt (keyV s)], true, true⟩).step hs3 hf3 (fun g _ => hm4 _ _ (by decide)) (by rw [hc3 _ (by decide)]; exact Nat.le_refl _)
        have hk3 : Gat σ3 [88] 1 false p2 (txts d.ks ++ [txt (keyK s)]) := (hg2.new (d := 95) ⟨1, [txt (keyV s)], true, true⟩).same (fun g _ => hm4 _ _ (by decide)) (by rw [hc3 _ (by decide)]; exact Nat.le_refl _)
        obtain ⟨ok9, okA⟩ := hg3.ok
        (repeat' first
    | refine w_seq ?_ | refine w_rg ?_ | refine wo_nil ?_ | refine g_skU ?_
    | ((first | apply s_plain | apply s_void | apply s_guard); · simp only [go_sem, Nat.reduceEqDiff, Nat.reduceAdd, Nat.reduceLeDiff, hm5, splice, fillP, fillE, List.modify_zero_cons, List.replicate_succ, List.replicate_zero, List.set_cons_zero, List.drop_zero, ba_data, ba_size, ba_toList, ba_extract, ba_append, List.toList_toArray, ok7, ok8, ok9, okA, List.set_cons_succ]; (first | done | rfl))
    | ((first | apply g_T | apply g_F); · intro hb; simp only [go_sem, Nat.reduceEqDiff, Nat.reduceAdd, Nat.reduceLeDiff, hm5, splice, fillP, fillE, List.modify_zero_cons, List.replicate_succ, List.replicate_zero, List.set_cons_zero, List.drop_zero, ba_data, ba_size, ba_toList, ba_extract, ba_append, List.toList_toArray, ok7, ok8, ok9, okA, List.set_cons_succ, hb]; (first | done | rfl))
    | ((first | apply g_gT | apply g_gF); · intro hb hc; simp only [go_sem, Nat.reduceEqDiff, Nat.reduceAdd, Nat.reduceLeDiff, hm5, splice, fillP, fillE, List.modify_zero_cons, List.replicate_succ, List.replicate_zero, List.set_cons_zero, List.drop_zero, ba_data, ba_size, ba_toList, ba_extract, ba_append, List.toList_toArray, ok7, ok8, ok9, okA, List.set_cons_succ, hb, hc]; (first | done | rfl))
    | refine g_skT ?_ | refine g_skF ?_
    | ((first | apply g_goT | apply g_goF); · simp only [go_sem, Nat.reduceEqDiff, Nat.reduceAdd, Nat.reduceLeDiff, hm5, splice, fillP, fillE, List.modify_zero_cons, List.replicate_succ, List.replicate_zero, List.set_cons_zero, List.drop_zero, ba_data, ba_size, ba_toList, ba_extract, ba_append, List.toList_toArray, ok7, ok8, ok9, okA, List.set_cons_succ]; (first | done | rfl))
    | (refine w_condT ?_ ?_; · simp only [go_sem, Nat.reduceEqDiff, Nat.reduceAdd, Nat.reduceLeDiff, hm5, splice, fillP, fillE, List.modify_zero_cons, List.replicate_succ, List.replicate_zero, List.set_cons_zero, List.drop_zero, ba_data, ba_size, ba_toList, ba_extract, ba_append, List.toList_toArray, ok7, ok8, ok9, okA, List.set_cons_succ]; (first | done | rfl))
    | (refine w_condF ?_ ?_; · simp only [go_sem, Nat.reduceEqDiff, Nat.reduceAdd, Nat.reduceLeDiff, hm5, splice, fillP, fillE, List.modify_zero_cons, List.replicate_succ, List.replicate_zero, List.set_cons_zero, List.drop_zero, ba_data, ba_size, ba_toList, ba_extract, ba_append, List.toList_toArray, ok7, ok8, ok9, okA, List.set_cons_succ]; (first | done | rfl))
    | refine w_skip ?_ | refine w_exit ?_ | refine w_ret ?_
    | fail
    )
        refine ⟨.inr rfl, _, by simp only [go_sem, Nat.reduceEqDiff, Nat.reduceAdd, Nat.reduceLeDiff, retOf, resOf, hin, Option.isSome_some], rfl, fun r' hr' => ?_⟩
        rw [hin] at hr'
        simp only [Option.some.injEq] at hr'
        subst hr'
        refine ⟨q, d.ty, p2, p3, .fn 56 [at0] [], (by simp only [go_sem, Nat.reduceEqDiff, Nat.reduceAdd, Nat.reduceLeDiff, splice, fillP, fillE, List.modify_zero_cons, List.replicate_succ, List.replicate_zero, List.set_cons_zero, List.drop_zero]; first | done | rfl), ?_, ok1, ok2, rfl, rfl, ?_, ?_⟩
        · have w1 := hw3.put (o := 2000014) (g := 0) (by decide) (by decide) hm5 (some ⟨5, [.agg [q, txt d.ty, p2, pv, .fn 56 [at0] []]], true, true⟩)
          exact w1.put (o := 2000014) (g := 0) (x := ⟨5, [.agg [q, txt d.ty, p2, pv, .fn 56 [at0] []]], true, true⟩) (by decide) (by decide) (by simp only [put_m, and_self, if_true]) _
        · have e1 : txts (d.ks ++ [keyK s]) = txts d.ks ++ [txt (keyK s)] := by simp [txts]
          rw [e1]
          exact (hk3.put (by decide) _).put (by decide) _
        · have e1 : txts (d.vs ++ [keyV s]) = txts d.vs ++ [txt (keyV s)] := by simp [txts]
          rw [e1]
          exact (hg3.put (by decide) _).put (by decide) _)
  exact ⟨τ, h1, h3⟩
end
end Go.Proofs.YtdlfomiclkpibaaDoorPv
namespace Go.Proofs.YtdlfomiclkpibaaDoorPv
open Go
set_option linter.unusedSimpArgs false
set_option linter.unusedVariables false
set_option maxHeartbeats 4000000
attribute [local go_sem ↓] e_mv e_pick e_bin e_eqs e_beq e_un e_cvi e_str e_s2b e_b2s e_box e_build e_bsl e_ld e_st e_nck e_mkf e_slcS e_slcL e_fa e_fld e_ia e_iaa e_ix e_ixa e_ext e_lenS e_lenL e_mnmx e_app e_appb e_bbx e_msl e_clr e_call e_callv pa_t pa_c pa_f slcSP_str hiOf_some hiOf_none loOf_some loOf_none set_eq set_ne
attribute [local go_sem] pv pv1 simple frOf_0 frOf_1 frOf_2 frOf_3 frOf_4 frOf_5 ne_eq not_false_eq_true if_true Bool.false_eq_true if_false pbin punary Option.map_some Option.bind_some pick_and pick_or opt_true Bool.true_and Bool.and_self Bool.and_true Bool.true_or Bool.false_or Bool.not_true Bool.not_false callE pcall_eq List.map_cons List.map_nil List.append_nil List.nil_append List.cons_append mapM_cons' mapM_nil' dep_eq fz_sc fz_sl fz_em fz_fn fz_fp fz_agg fz_tu fz_bx fz_ob Nat.lt_irrefl Nat.zero_lt_one Nat.lt_add_one flat clL cl Bool.or_true okc_sc okc_em okc_sl okc_ob okc_bx okc_fp okc_fn okc_agg okc_ifc cells_agg cells_sc cells_sl cells_em cells_ob cells_fn cells_bx cells_fp List.length_cons List.length_nil Nat.zero_add and_self true_and and_true new_m new_c put_m put_c nil_m nil_c deref List.getElem?_cons_zero List.getElem?_cons_succ List.drop_zero List.drop_succ_cons List.take_succ_cons List.take_zero Nat.le_refl false_and and_false decide_true decide_false lenP_em lenP_nil lenP_sl lenP_ob Int.ofNat_zero
set_option maxRecDepth 8000
/-- transhipment/block.Parse -/
def d16 : Def := (.code 1 [.tmp 2, .tmp 3, .tmp 4] (.seq (.rg false [⟨.some 2, .none, .mv (.c (.slice .none 0 0))⟩, ⟨.some 3, .none, .mv (.c (.int .i64 0))⟩, ⟨.some 4, .none, .mv (.c (.int .i64 0))⟩]) (.seq (.seq (.rg false [⟨.some 10, .none, .mv (.t 0)⟩, ⟨.some 11, .none, .lenS (.t 10)⟩, ⟨.some 12, .none, .bin .gtr (.t 11) (.c (.int .i64 8192))⟩]) (.cond (.t 12) (.seq (.rg false [⟨.some 2, .none, .mv (.c (.slice .none 0 0))⟩, ⟨.some 3, .none, .mv (.c (.int .i64 2))⟩, ⟨.some 4, .none, .mv (.c (.int .i64 0))⟩]) .ret) .skip)) (.seq (.rg false [⟨.some 13, .none, .build (.agg #[.slice .none 0 0, .string ⟨#[]⟩, .slice .none 0 0, .slice .none 0 0, .nilFunc]) []⟩, ⟨.some 14, .none, .box (.t 13)⟩, ⟨.some 5, .none, .mv (.t 14)⟩]) (.seq (.rg false [⟨.some 15, .none, .mv (.t 5)⟩, ⟨.some 16, .none, .mv (.t 5)⟩, ⟨.some 17, .none, .mkf 38 [.t 16] []⟩, ⟨.some 18, .none, .nck (.t 15)⟩, ⟨.some 19, .none, .fa 4 (.t 18)⟩, ⟨.none, .none, .st 1 (.t 19) (.t 17)⟩]) (.seq (.rg false [⟨.some 6, .none, .mv (.c (.int .i64 1))⟩]) (.seq (.block 0 (.loop (.seq (.seq (.rg false [⟨.some 20, .none, .mv (.t 0)⟩, ⟨.some 21, .none, .bin .neq (.t 20) (.c (.string ⟨#[]⟩))⟩]) (.cond (.t 21) .skip (.exit 0))) (.seq (.block 1 (.seq (.rg false [⟨.some 25, .none, .mv (.t 0)⟩, ⟨.some 26, .none, .call 39 .pure [.t 25, .c (.string ⟨#[10]⟩)]⟩, ⟨.some 24, .none, .mv (.t 26)⟩, ⟨.some 27, .none, .ext (.t 24) 0⟩, ⟨.some 28, .none, .ext (.t 24) 1⟩, ⟨.some 29, .none, .ext (.t 24) 2⟩, ⟨.some 7, .none, .mv (.t 27)⟩, ⟨.some 8, .none, .mv (.t 28)⟩, ⟨.some 9, .none, .mv (.t 29)⟩]) (.seq (.seq (.rg false [⟨.some 30, .none, .mv (.t 9)⟩, ⟨.some 31, .none, .un .not (.t 30)⟩, ⟨.some 32, .none, .mv (.t 31)⟩, ⟨.some 33, .some (32, false), .mv (.t 7)⟩, ⟨.some 34, .some (32, false), .call 40 .pure [.t 33]⟩, ⟨.some 35, .some (32, false), .un .not (.t 34)⟩, ⟨.some 36, .some (32, false), .mv (.t 35)⟩, ⟨.some 37, .some (36, true), .mv (.t 5)⟩, ⟨.some 38, .some (36, true), .nck (.t 37)⟩, ⟨.some 39, .some (36, true), .fa 4 (.t 38)⟩, ⟨.some 40, .some (36, true), .ld .none (.t 39)⟩, ⟨.some 41, .some (36, true), .mv (.t 7)⟩, ⟨.some 42, .some (36, true), .callv (.t 40) .opn [.t 41]⟩, ⟨.some 43, .some (36, true), .un .not (.t 42)⟩, ⟨.some 44, .some (32, false), .pick (.t 36) (.t 43) (.c (.bool false))⟩, ⟨.some 45, .none, .pick (.t 32) (.c (.bool true)) (.t 44)⟩]) (.cond (.t 45) (.seq (.rg false [⟨.some 46, .none, .mv (.t 6)⟩, ⟨.some 2, .none, .mv (.c (.slice .none 0 0))⟩, ⟨.some 3, .none, .mv (.c (.int .i64 250))⟩, ⟨.some 4, .none, .mv (.t 46)⟩]) .ret) .skip)) (.rg false [⟨.some 47, .none, .mv (.t 8)⟩, ⟨.some 0, .none, .mv (.t 47)⟩])))) (.rg false [⟨.some 22, .none, .mv (.t 6)⟩, ⟨.some 23, .none, .bin .add (.t 22) (.c (.int .i64 1))⟩, ⟨.some 6, .none, .mv (.t 23)⟩]))))) (.seq (.seq (.rg false [⟨.some 48, .none, .mv (.t 5)⟩, ⟨.some 49, .none, .nck (.t 48)⟩, ⟨.some 50, .none, .fa 1 (.t 49)⟩, ⟨.some 51, .none, .fa 0 (.t 50)⟩, ⟨.some 52, .none, .ld .none (.t 51)⟩, ⟨.some 53, .none, .bin .neq (.t 52) (.c (.string ⟨#[]⟩))⟩]) (.cond (.t 53) (.seq (.rg false [⟨.some 54, .none, .mv (.t 6)⟩, ⟨.some 2, .none, .mv (.c (.slice .none 0 0))⟩, ⟨.some 3, .none, .mv (.c (.int .i64 250))⟩, ⟨.some 4, .none, .mv (.t 54)⟩]) .ret) .skip)) (.seq (.rg false [⟨.some 55, .none, .mv (.t 5)⟩, ⟨.some 56, .none, .nck (.t 55)⟩, ⟨.some 57, .none, .fa 0 (.t 56)⟩, ⟨.some 58, .none, .ld .none (.t 57)⟩, ⟨.some 2, .none, .mv (.t 58)⟩, ⟨.some 3, .none, .mv (.c (.int .i64 0))⟩, ⟨.some 4, .none, .mv (.c (.int .i64 0))⟩]) .ret)))))))))
def ldp : List (Nat × Def) := [(16, d16)]
section
variable {env : Nat → Option Def} {fr : Fr} {σ σ' σ'' : St} {K : Fr → St → Prop} {Q : X → Fr → St → Prop} {p : PV} {bs : List UInt8}
theorem word_nil : wordD [] = false := rfl
/-- What the reader does with a line. -/
theorem rdr_step (A : Has law env) (Da : Has lda env) (B : Has ldb env) (C : Has lca env) (D : Has lcb env) (M : Has ldm env) (O : Has ldo env) {r : Rs} (hr : Rdr σ r) (hm : May r) :
    ∃ q ty pk pv f, σ.m 2000014 0 = some ⟨5, [.agg [q, txt ty, pk, pv, .fn f [at0] []]], true, true⟩ ∧ (ty == []) = r.now.isNone ∧ Fw σ 23 q r.all ∧ cellsOf q = [q] ∧ okc q = true ∧
      ∀ s, blankD s = false → s.length ≤ 8192 → ∃ σ', EV env f [at0, txt s] σ = some (.sc (.bool (stepD r s).isSome), σ') ∧ ∀ r', stepD r s = some r' → Rdr σ' r' ∧ May r' := by
  have hr' := hr
  obtain ⟨q, ty, pk, pv, nx, hb, hw, ok1, ok2, hx⟩ := hr'
  have hmay : ∀ s r', stepD r s = some r' → May r' := fun s r' h => (stepD_may hm h).1
  cases hn : r.now with
  | none =>
    rw [hn] at hx
    obtain ⟨rfl, rfl⟩ := hx
    refine ⟨q, [], pk, pv, 38, hb, rfl, hw, ok1, ok2, fun s hbl hs => ?_⟩
    obtain ⟨σ', h1, h2⟩ := a38 A D M O hr hn hs
    have e : stepD r s = outD r s := by unfold stepD; rw [hbl, hn]; rfl
    rw [e]
    exact ⟨σ', h1, fun r' h => ⟨h2 r' h, hmay s r' (by rw [e]; exact h)⟩⟩
  | some d =>
    rw [hn] at hx
    obtain ⟨rfl, rfl, hgk, hgv⟩ := hx
    obtain ⟨m1, m2, m3⟩ := hm
    rw [hn] at m3
    refine ⟨q, d.ty, pk, pv, 56, hb, ?_, hw, ok1, ok2, fun s hbl hs => ?_⟩
    · have := m3.1.ty
      rw [Option.isNone_some]
      rw [Bool.eq_false_iff]
      intro h
      rw [beq_iff_eq] at h
      rw [h, word_nil] at this
      cases this
    · obtain ⟨σ', h1, h2⟩ := a56 A Da B C D O hr hn m1 m3.1.n (by rw [← m3.1.e]; exact m3.1.n) hs
      have e : stepD r s = inD r d s := by unfold stepD; rw [hbl, hn]; rfl
      rw [e]
      exact ⟨σ', h1, fun r' h => ⟨h2 r' h, hmay s r' (by rw [e]; exact h)⟩⟩
theorem a16 (A : Has law env) (Da : Has lda env) (B : Has ldb env) (C : Has lca env) (D : Has lcb env) (M : Has ldm env) (N : Has ldn env) (O : Has ldo env) (P : Has ldp env) {s : List UInt8} (hs : s.length ≤ 4000000000) :
    AV env 16 [txt s] = some (.tu [.sl (dfs (parseD s).1), .sc (.int .i64 (parseD s).2.1), .sc (.int .i64 (parseD s).2.2)]) := by
  refine AV_wp (P (16, d16) (by simp [ldp])) rfl ?_
  by_cases hl : s.length > 8192
  · have hd : decide ((s.length : Int) > 8192) = true := by simp; omega
    have hp : parseD s = ([], 2, 0) := by unfold parseD; rw [if_pos hl]
    (repeat' first
    | refine w_seq ?_ | refine w_rg ?_ | refine wo_nil ?_ | refine g_skU ?_
    | ((first | apply s_plain | apply s_void | apply s_guard); · simp only [go_sem, Nat.reduceEqDiff, Nat.reduceAdd, Nat.reduceLeDiff, hd, ba_data, ba_size, ba_toList, ba_extract, ba_append, List.toList_toArray]; (first | done | rfl))
    | ((first | apply g_T | apply g_F); · intro hb; simp only [go_sem, Nat.reduceEqDiff, Nat.reduceAdd, Nat.reduceLeDiff, hd, ba_data, ba_size, ba_toList, ba_extract, ba_append, List.toList_toArray, hb]; (first | done | rfl))
    | ((first | apply g_gT | apply g_gF); · intro hb hc; simp only [go_sem, Nat.reduceEqDiff, Nat.reduceAdd, Nat.reduceLeDiff, hd, ba_data, ba_size, ba_toList, ba_extract, ba_append, List.toList_toArray, hb, hc]; (first | done | rfl))
    | refine g_skT ?_ | refine g_skF ?_
    | ((first | apply g_goT | apply g_goF); · simp only [go_sem, Nat.reduceEqDiff, Nat.reduceAdd, Nat.reduceLeDiff, hd, ba_data, ba_size, ba_toList, ba_extract, ba_append, List.toList_toArray]; (first | done | rfl))
    | (refine w_condT ?_ ?_; · simp only [go_sem, Nat.reduceEqDiff, Nat.reduceAdd, Nat.reduceLeDiff, hd, ba_data, ba_size, ba_toList, ba_extract, ba_append, List.toList_toArray]; (first | done | rfl))
    | (refine w_condF ?_ ?_; · simp only [go_sem, Nat.reduceEqDiff, Nat.reduceAdd, Nat.reduceLeDiff, hd, ba_data, ba_size, ba_toList, ba_extract, ba_append, List.toList_toArray]; (first | done | rfl))
    | refine w_skip ?_ | refine w_exit ?_ | refine w_ret ?_
    | fail
    )
    exact ⟨by first | exact .inr rfl | exact .inr trivial | exact .inl rfl, by simp only [go_sem, Nat.reduceEqDiff, Nat.reduceAdd, Nat.reduceLeDiff, retOf, resOf, hp, dfs, List.map_nil]; first | done | rfl⟩
  · have hd : decide ((s.length : Int) > 8192) = false := by simp; omega
    have hp : parseD s = endD (linesD s).2 (runD ⟨[], none⟩ (linesD s).1 1) := by unfold parseD; rw [if_neg hl]
    rw [hp]
    (repeat' first
    | refine w_seq ?_ | refine w_rg ?_ | refine wo_nil ?_ | refine g_skU ?_
    | ((first | apply s_plain | apply s_void | apply s_guard); · simp only [go_sem, Nat.reduceEqDiff, Nat.reduceAdd, Nat.reduceLeDiff, hd, ba_data, ba_size, ba_toList, ba_extract, ba_append, List.toList_toArray, splice, fillP, fillE, List.modify_zero_cons, List.replicate_succ, List.replicate_zero, List.set_cons_zero, List.drop_zero]; (first | done | rfl))
    | ((first | apply g_T | apply g_F); · intro hb; simp only [go_sem, Nat.reduceEqDiff, Nat.reduceAdd, Nat.reduceLeDiff, hd, ba_data, ba_size, ba_toList, ba_extract, ba_append, List.toList_toArray, splice, fillP, fillE, List.modify_zero_cons, List.replicate_succ, List.replicate_zero, List.set_cons_zero, List.drop_zero, hb]; (first | done | rfl))
    | ((first | apply g_gT | apply g_gF); · intro hb hc; simp only [go_sem, Nat.reduceEqDiff, Nat.reduceAdd, Nat.reduceLeDiff, hd, ba_data, ba_size, ba_toList, ba_extract, ba_append, List.toList_toArray, splice, fillP, fillE, List.modify_zero_cons, List.replicate_succ, List.replicate_zero, List.set_cons_zero, List.drop_zero, hb, hc]; (first | done | rfl))
    | refine g_skT ?_ | refine g_skF ?_
    | ((first | apply g_goT | apply g_goF); · simp only [go_sem, Nat.reduceEqDiff, Nat.reduceAdd, Nat.reduceLeDiff, hd, ba_data, ba_size, ba_toList, ba_extract, ba_append, List.toList_toArray, splice, fillP, fillE, List.modify_zero_cons, List.replicate_succ, List.replicate_zero, List.set_cons_zero, List.drop_zero]; (first | done | rfl))
    | (refine w_condT ?_ ?_; · simp only [go_sem, Nat.reduceEqDiff, Nat.reduceAdd, Nat.reduceLeDiff, hd, ba_data, ba_size, ba_toList, ba_extract, ba_append, List.toList_toArray, splice, fillP, fillE, List.modify_zero_cons, List.replicate_succ, List.replicate_zero, List.set_cons_zero, List.drop_zero]; (first | done | rfl))
    | (refine w_condF ?_ ?_; · simp only [go_sem, Nat.reduceEqDiff, Nat.reduceAdd, Nat.reduceLeDiff, hd, ba_data, ba_size, ba_toList, ba_extract, ba_append, List.toList_toArray, splice, fillP, fillE, List.modify_zero_cons, List.replicate_succ, List.replicate_zero, List.set_cons_zero, List.drop_zero]; (first | done | rfl))
    | refine w_skip ?_ | refine w_exit ?_ | refine w_ret ?_
    | fail
    )
    refine w_block (w_loopF (fun m fr σ => ∃ (rest : List UInt8) (r : Rs) (n : Nat), m = rest.length ∧ fr 0 = txt rest ∧ fr 6 = .sc (.int .i64 (n : Int)) ∧ Rdr σ r ∧ May r ∧ runD ⟨[], none⟩ (linesD s).1 1 = runD r (linesD rest).1 n ∧ (linesD s).2 = (linesD rest).2 ∧ n + rest.length ≤ s.length + 1) ?_ s.length ?_)
    · rintro m fr1 σ1 ⟨rest, r, n, rfl, f0, f6, hr, hm, he1, he2, hn⟩ hfr
      have f0_5 := hfr 5 rfl; try (simp only [go_sem, Nat.reduceEqDiff, Nat.reduceAdd, Nat.reduceLeDiff] at f0_5)
      obtain ⟨q, ty, pk, pv, f, hb, hty, hw, ok1, ok2, hstep⟩ := rdr_step A Da B C D M O hr hm
      by_cases h0 : rest = []
      · subst h0
        have hd0 : (([] : List UInt8) == []) = true := rfl
        have e0_5 := hfr 5 rfl; try (simp only [go_sem, Nat.reduceEqDiff, Nat.reduceAdd, Nat.reduceLeDiff] at e0_5)
        (repeat' first
    | refine w_seq ?_ | refine w_rg ?_ | refine wo_nil ?_ | refine g_skU ?_
    | ((first | apply s_plain | apply s_void | apply s_guard); · simp only [go_sem, Nat.reduceEqDiff, Nat.reduceAdd, Nat.reduceLeDiff, f0_5, f0, f6, ba_data, ba_size, ba_toList, ba_extract, ba_append, List.toList_toArray, ba_nil, hd0]; (first | done | rfl))
    | ((first | apply g_T | apply g_F); · intro hb; simp only [go_sem, Nat.reduceEqDiff, Nat.reduceAdd, Nat.reduceLeDiff, f0_5, f0, f6, ba_data, ba_size, ba_toList, ba_extract, ba_append, List.toList_toArray, ba_nil, hd0, hb]; (first | done | rfl))
    | ((first | apply g_gT | apply g_gF); · intro hb hc; simp only [go_sem, Nat.reduceEqDiff, Nat.reduceAdd, Nat.reduceLeDiff, f0_5, f0, f6, ba_data, ba_size, ba_toList, ba_extract, ba_append, List.toList_toArray, ba_nil, hd0, hb, hc]; (first | done | rfl))
    | refine g_skT ?_ | refine g_skF ?_
    | ((first | apply g_goT | apply g_goF); · simp only [go_sem, Nat.reduceEqDiff, Nat.reduceAdd, Nat.reduceLeDiff, f0_5, f0, f6, ba_data, ba_size, ba_toList, ba_extract, ba_append, List.toList_toArray, ba_nil, hd0]; (first | done | rfl))
    | (refine w_condT ?_ ?_; · simp only [go_sem, Nat.reduceEqDiff, Nat.reduceAdd, Nat.reduceLeDiff, f0_5, f0, f6, ba_data, ba_size, ba_toList, ba_extract, ba_append, List.toList_toArray, ba_nil, hd0]; (first | done | rfl))
    | (refine w_condF ?_ ?_; · simp only [go_sem, Nat.reduceEqDiff, Nat.reduceAdd, Nat.reduceLeDiff, f0_5, f0, f6, ba_data, ba_size, ba_toList, ba_extract, ba_append, List.toList_toArray, ba_nil, hd0]; (first | done | rfl))
    | refine w_skip ?_ | refine w_exit ?_ | refine w_ret ?_
    | fail
    )
        try simp only [if_true]
        (repeat' first
    | refine w_seq ?_ | refine w_rg ?_ | refine wo_nil ?_ | refine g_skU ?_
    | ((first | apply s_plain | apply s_void | apply s_guard); · simp only [go_sem, Nat.reduceEqDiff, Nat.reduceAdd, Nat.reduceLeDiff, e0_5, f6, hb, ba_data, ba_size, ba_toList, ba_extract, ba_append, List.toList_toArray, ba_nil, hty, splice, fillP, fillE, List.modify_zero_cons, List.replicate_succ, List.replicate_zero, List.set_cons_zero, List.drop_zero]; (first | done | rfl))
    | ((first | apply g_T | apply g_F); · intro hb; simp only [go_sem, Nat.reduceEqDiff, Nat.reduceAdd, Nat.reduceLeDiff, e0_5, f6, hb, ba_data, ba_size, ba_toList, ba_extract, ba_append, List.toList_toArray, ba_nil, hty, splice, fillP, fillE, List.modify_zero_cons, List.replicate_succ, List.replicate_zero, List.set_cons_zero, List.drop_zero, hb]; (first | done | rfl))
    | ((first | apply g_gT | apply g_gF); · intro hb hc; simp only [go_sem, Nat.reduceEqDiff, Nat.reduceAdd, Nat.reduceLeDiff, e0_5, f6, hb, ba_data, ba_size, ba_toList, ba_extract, ba_append, List.toList_toArray, ba_nil, hty, splice, fillP, fillE, List.modify_zero_cons, List.replicate_succ, List.replicate_zero, List.set_cons_zero, List.drop_zero, hb, hc]; (first | done | rfl))
    | refine g_skT ?_ | refine g_skF ?_
    | ((first | apply g_goT | apply g_goF); · simp only [go_sem, Nat.reduceEqDiff, Nat.reduceAdd, Nat.reduceLeDiff, e0_5, f6, hb, ba_data, ba_size, ba_toList, ba_extract, ba_append, List.toList_toArray, ba_nil, hty, splice, fillP, fillE, List.modify_zero_cons, List.replicate_succ, List.replicate_zero, List.set_cons_zero, List.drop_zero]; (first | done | rfl))
    | fail
    )
        have hfin : endD (linesD s).2 (runD ⟨[], none⟩ (linesD s).1 1) = if r.now = none then (r.all, 0, 0) else ([], 250, (n : Int)) := by
          rw [he1, he2]
          simp only [linesD, runD, endD, true_and]
        rw [hfin]
        cases hnow : r.now with
        | none =>
          obtain ⟨hf, xs, hgx, hxl, hxr⟩ := hw
          have h4 := gat_rd hgx (by decide) hxr
          have h5 : fz σ1 11 q = some (.sl (dfs r.all)) := rd_fz_le (by decide) h4
          (repeat' first
    | refine w_seq ?_ | refine w_rg ?_ | refine wo_nil ?_ | refine g_skU ?_
    | ((first | apply s_plain | apply s_void | apply s_guard); · simp only [go_sem, Nat.reduceEqDiff, Nat.reduceAdd, Nat.reduceLeDiff, e0_5, hb, splice, fillP, fillE, List.modify_zero_cons, List.replicate_succ, List.replicate_zero, List.set_cons_zero, List.drop_zero, hnow, Option.isNone_none]; (first | done | rfl))
    | ((first | apply g_T | apply g_F); · intro hb; simp only [go_sem, Nat.reduceEqDiff, Nat.reduceAdd, Nat.reduceLeDiff, e0_5, hb, splice, fillP, fillE, List.modify_zero_cons, List.replicate_succ, List.replicate_zero, List.set_cons_zero, List.drop_zero, hnow, Option.isNone_none, hb]; (first | done | rfl))
    | ((first | apply g_gT | apply g_gF); · intro hb hc; simp only [go_sem, Nat.reduceEqDiff, Nat.reduceAdd, Nat.reduceLeDiff, e0_5, hb, splice, fillP, fillE, List.modify_zero_cons, List.replicate_succ, List.replicate_zero, List.set_cons_zero, List.drop_zero, hnow, Option.isNone_none, hb, hc]; (first | done | rfl))
    | refine g_skT ?_ | refine g_skF ?_
    | ((first | apply g_goT | apply g_goF); · simp only [go_sem, Nat.reduceEqDiff, Nat.reduceAdd, Nat.reduceLeDiff, e0_5, hb, splice, fillP, fillE, List.modify_zero_cons, List.replicate_succ, List.replicate_zero, List.set_cons_zero, List.drop_zero, hnow, Option.isNone_none]; (first | done | rfl))
    | (refine w_condT ?_ ?_; · simp only [go_sem, Nat.reduceEqDiff, Nat.reduceAdd, Nat.reduceLeDiff, e0_5, hb, splice, fillP, fillE, List.modify_zero_cons, List.replicate_succ, List.replicate_zero, List.set_cons_zero, List.drop_zero, hnow, Option.isNone_none]; (first | done | rfl))
    | (refine w_condF ?_ ?_; · simp only [go_sem, Nat.reduceEqDiff, Nat.reduceAdd, Nat.reduceLeDiff, e0_5, hb, splice, fillP, fillE, List.modify_zero_cons, List.replicate_succ, List.replicate_zero, List.set_cons_zero, List.drop_zero, hnow, Option.isNone_none]; (first | done | rfl))
    | refine w_skip ?_ | refine w_exit ?_ | refine w_ret ?_
    | fail
    )
          exact ⟨by first | exact .inr rfl | exact .inr trivial | exact .inl rfl, by simp only [go_sem, Nat.reduceEqDiff, Nat.reduceAdd, Nat.reduceLeDiff, retOf, resOf, h5]; first | done | rfl⟩
        | some d =>
          (repeat' first
    | refine w_seq ?_ | refine w_rg ?_ | refine wo_nil ?_ | refine g_skU ?_
    | ((first | apply s_plain | apply s_void | apply s_guard); · simp only [go_sem, Nat.reduceEqDiff, Nat.reduceAdd, Nat.reduceLeDiff, e0_5, f6, hnow, Option.isNone_some]; (first | done | rfl))
    | ((first | apply g_T | apply g_F); · intro hb; simp only [go_sem, Nat.reduceEqDiff, Nat.reduceAdd, Nat.reduceLeDiff, e0_5, f6, hnow, Option.isNone_some, hb]; (first | done | rfl))
    | ((first | apply g_gT | apply g_gF); · intro hb hc; simp only [go_sem, Nat.reduceEqDiff, Nat.reduceAdd, Nat.reduceLeDiff, e0_5, f6, hnow, Option.isNone_some, hb, hc]; (first | done | rfl))
    | refine g_skT ?_ | refine g_skF ?_
    | ((first | apply g_goT | apply g_goF); · simp only [go_sem, Nat.reduceEqDiff, Nat.reduceAdd, Nat.reduceLeDiff, e0_5, f6, hnow, Option.isNone_some]; (first | done | rfl))
    | (refine w_condT ?_ ?_; · simp only [go_sem, Nat.reduceEqDiff, Nat.reduceAdd, Nat.reduceLeDiff, e0_5, f6, hnow, Option.isNone_some]; (first | done | rfl))
    | (refine w_condF ?_ ?_; · simp only [go_sem, Nat.reduceEqDiff, Nat.reduceAdd, Nat.reduceLeDiff, e0_5, f6, hnow, Option.isNone_some]; (first | done | rfl))
    | refine w_skip ?_ | refine w_exit ?_ | refine w_ret ?_
    | fail
    )
          exact ⟨by first | exact .inr rfl | exact .inr trivial | exact .inl rfl, by simp only [go_sem, Nat.reduceEqDiff, Nat.reduceAdd, Nat.reduceLeDiff, retOf, resOf, dfs, List.map_nil, reduceCtorEq]; first | done | rfl⟩
      · have hd1 : (rest == ([] : List UInt8)) = false := by simpa using h0
        have h39 := a39 C (s := rest) (t := [10]) (by omega) (by simp)
        (repeat' first
    | refine w_seq ?_ | refine w_rg ?_ | refine wo_nil ?_ | refine g_skU ?_
    | ((first | apply s_plain | apply s_void | apply s_guard); · simp only [go_sem, Nat.reduceEqDiff, Nat.reduceAdd, Nat.reduceLeDiff, f0_5, f0, f6, ba_data, ba_size, ba_toList, ba_extract, ba_append, List.toList_toArray, ba_nil, hd1]; (first | done | rfl))
    | ((first | apply g_T | apply g_F); · intro hb; simp only [go_sem, Nat.reduceEqDiff, Nat.reduceAdd, Nat.reduceLeDiff, f0_5, f0, f6, ba_data, ba_size, ba_toList, ba_extract, ba_append, List.toList_toArray, ba_nil, hd1, hb]; (first | done | rfl))
    | ((first | apply g_gT | apply g_gF); · intro hb hc; simp only [go_sem, Nat.reduceEqDiff, Nat.reduceAdd, Nat.reduceLeDiff, f0_5, f0, f6, ba_data, ba_size, ba_toList, ba_extract, ba_append, List.toList_toArray, ba_nil, hd1, hb, hc]; (first | done | rfl))
    | refine g_skT ?_ | refine g_skF ?_
    | ((first | apply g_goT | apply g_goF); · simp only [go_sem, Nat.reduceEqDiff, Nat.reduceAdd, Nat.reduceLeDiff, f0_5, f0, f6, ba_data, ba_size, ba_toList, ba_extract, ba_append, List.toList_toArray, ba_nil, hd1]; (first | done | rfl))
    | (refine w_condT ?_ ?_; · simp only [go_sem, Nat.reduceEqDiff, Nat.reduceAdd, Nat.reduceLeDiff, f0_5, f0, f6, ba_data, ba_size, ba_toList, ba_extract, ba_append, List.toList_toArray, ba_nil, hd1]; (first | done | rfl))
    | (refine w_condF ?_ ?_; · simp only [go_sem, Nat.reduceEqDiff, Nat.reduceAdd, Nat.reduceLeDiff, f0_5, f0, f6, ba_data, ba_size, ba_toList, ba_extract, ba_append, List.toList_toArray, ba_nil, hd1]; (first | done | rfl))
    | refine w_skip ?_ | refine w_exit ?_ | refine w_ret ?_
    | fail
    )
        refine w_block ?_
        rcases split1 10 rest with hno | ⟨a, b, rfl, hno⟩
        · rw [cut1_no hno] at h39
          have hfin : endD (linesD s).2 (runD ⟨[], none⟩ (linesD s).1 1) = ([], 250, (n : Int)) := by
            rw [he1, he2, linesD_no hno]
            simp only [runD, endD]
            rw [if_neg (fun h => h0 h.1)]
          rw [hfin]
          (repeat' first
    | refine w_seq ?_ | refine w_rg ?_ | refine wo_nil ?_ | refine g_skU ?_
    | ((first | apply s_plain | apply s_void | apply s_guard); · simp only [go_sem, Nat.reduceEqDiff, Nat.reduceAdd, Nat.reduceLeDiff, f0_5, f0, f6, h39]; (first | done | rfl))
    | ((first | apply g_T | apply g_F); · intro hb; simp only [go_sem, Nat.reduceEqDiff, Nat.reduceAdd, Nat.reduceLeDiff, f0_5, f0, f6, h39, hb]; (first | done | rfl))
    | ((first | apply g_gT | apply g_gF); · intro hb hc; simp only [go_sem, Nat.reduceEqDiff, Nat.reduceAdd, Nat.reduceLeDiff, f0_5, f0, f6, h39, hb, hc]; (first | done | rfl))
    | refine g_skT ?_ | refine g_skF ?_
    | ((first | apply g_goT | apply g_goF); · simp only [go_sem, Nat.reduceEqDiff, Nat.reduceAdd, Nat.reduceLeDiff, f0_5, f0, f6, h39]; (first | done | rfl))
    | (refine w_condT ?_ ?_; · simp only [go_sem, Nat.reduceEqDiff, Nat.reduceAdd, Nat.reduceLeDiff, f0_5, f0, f6, h39]; (first | done | rfl))
    | (refine w_condF ?_ ?_; · simp only [go_sem, Nat.reduceEqDiff, Nat.reduceAdd, Nat.reduceLeDiff, f0_5, f0, f6, h39]; (first | done | rfl))
    | refine w_skip ?_ | refine w_exit ?_ | refine w_ret ?_
    | fail
    )
          exact ⟨by first | exact .inr rfl | exact .inr trivial | exact .inl rfl, by simp only [go_sem, Nat.reduceEqDiff, Nat.reduceAdd, Nat.reduceLeDiff, retOf, resOf, dfs, List.map_nil]; first | done | rfl⟩
        · rw [cut1_at hno] at h39
          simp only [List.length_append, List.length_cons] at hn
          have h40 := a40 N (s := a) (by omega)
          have hla : (linesD (a ++ 10 :: b)) = (a :: (linesD b).1, (linesD b).2) := linesD_at hno
          have w1 : IntKind.i64.wrap ((n : Int) + 1) = ((n + 1 : Nat) : Int) := by rw [IntKind.wrap_i64]; omega
          rw [hla] at he1 he2
          simp only at he1 he2
          cases hbl : blankD a with
          | true =>
            have hst : stepD r a = some r := by unfold stepD; rw [hbl]; rfl
            rw [runD, hst] at he1
            simp only at he1
            rw [hbl] at h40
            (repeat' first
    | refine w_seq ?_ | refine w_rg ?_ | refine wo_nil ?_ | refine g_skU ?_
    | ((first | apply s_plain | apply s_void | apply s_guard); · simp only [go_sem, Nat.reduceEqDiff, Nat.reduceAdd, Nat.reduceLeDiff, f0_5, f0, f6, h39, h40, w1]; (first | done | rfl))
    | ((first | apply g_T | apply g_F); · intro hb; simp only [go_sem, Nat.reduceEqDiff, Nat.reduceAdd, Nat.reduceLeDiff, f0_5, f0, f6, h39, h40, w1, hb]; (first | done | rfl))
    | ((first | apply g_gT | apply g_gF); · intro hb hc; simp only [go_sem, Nat.reduceEqDiff, Nat.reduceAdd, Nat.reduceLeDiff, f0_5, f0, f6, h39, h40, w1, hb, hc]; (first | done | rfl))
    | refine g_skT ?_ | refine g_skF ?_
    | ((first | apply g_goT | apply g_goF); · simp only [go_sem, Nat.reduceEqDiff, Nat.reduceAdd, Nat.reduceLeDiff, f0_5, f0, f6, h39, h40, w1]; (first | done | rfl))
    | (refine w_condT ?_ ?_; · simp only [go_sem, Nat.reduceEqDiff, Nat.reduceAdd, Nat.reduceLeDiff, f0_5, f0, f6, h39, h40, w1]; (first | done | rfl))
    | (refine w_condF ?_ ?_; · simp only [go_sem, Nat.reduceEqDiff, Nat.reduceAdd, Nat.reduceLeDiff, f0_5, f0, f6, h39, h40, w1]; (first | done | rfl))
    | refine w_skip ?_ | refine w_exit ?_ | refine w_ret ?_
    | fail
    )
            refine ⟨b.length, by simp; omega, b, r, n + 1, rfl, by simp only [go_sem, Nat.reduceEqDiff, Nat.reduceAdd, Nat.reduceLeDiff], by simp only [go_sem, Nat.reduceEqDiff, Nat.reduceAdd, Nat.reduceLeDiff], hr, hm, he1, he2, by omega⟩
          | false =>
            rw [hbl] at h40
            obtain ⟨σ2, hev, hr2⟩ := hstep a hbl (by omega)
            (repeat' first
    | refine w_seq ?_ | refine w_rg ?_ | refine wo_nil ?_ | refine g_skU ?_
    | ((first | apply s_plain | apply s_void | apply s_guard); · simp only [go_sem, Nat.reduceEqDiff, Nat.reduceAdd, Nat.reduceLeDiff, f0_5, f0, f6, h39, h40, hb, splice, fillP, fillE, List.modify_zero_cons, List.replicate_succ, List.replicate_zero, List.set_cons_zero, List.drop_zero]; (first | done | rfl))
    | ((first | apply g_T | apply g_F); · intro hb; simp only [go_sem, Nat.reduceEqDiff, Nat.reduceAdd, Nat.reduceLeDiff, f0_5, f0, f6, h39, h40, hb, splice, fillP, fillE, List.modify_zero_cons, List.replicate_succ, List.replicate_zero, List.set_cons_zero, List.drop_zero, hb]; (first | done | rfl))
    | ((first | apply g_gT | apply g_gF); · intro hb hc; simp only [go_sem, Nat.reduceEqDiff, Nat.reduceAdd, Nat.reduceLeDiff, f0_5, f0, f6, h39, h40, hb, splice, fillP, fillE, List.modify_zero_cons, List.replicate_succ, List.replicate_zero, List.set_cons_zero, List.drop_zero, hb, hc]; (first | done | rfl))
    | refine g_skT ?_ | refine g_skF ?_
    | ((first | apply g_goT | apply g_goF); · simp only [go_sem, Nat.reduceEqDiff, Nat.reduceAdd, Nat.reduceLeDiff, f0_5, f0, f6, h39, h40, hb, splice, fillP, fillE, List.modify_zero_cons, List.replicate_succ, List.replicate_zero, List.set_cons_zero, List.drop_zero]; (first | done | rfl))
    | (refine w_condT ?_ ?_; · simp only [go_sem, Nat.reduceEqDiff, Nat.reduceAdd, Nat.reduceLeDiff, f0_5, f0, f6, h39, h40, hb, splice, fillP, fillE, List.modify_zero_cons, List.replicate_succ, List.replicate_zero, List.set_cons_zero, List.drop_zero]; (first | done | rfl))
    | (refine w_condF ?_ ?_; · simp only [go_sem, Nat.reduceEqDiff, Nat.reduceAdd, Nat.reduceLeDiff, f0_5, f0, f6, h39, h40, hb, splice, fillP, fillE, List.modify_zero_cons, List.replicate_succ, List.replicate_zero, List.set_cons_zero, List.drop_zero]; (first | done | rfl))
    | refine w_skip ?_ | refine w_exit ?_ | refine w_ret ?_
    | fail
    )
            refine g_goT (v := .sc (.bool (stepD r a).isSome)) (σ' := σ2) (by simp only [evO, pa]; simp only [go_sem, Nat.reduceEqDiff, Nat.reduceAdd, Nat.reduceLeDiff]; exact hev) ?_
            cases hst : stepD r a with
            | none =>
              have hfin : endD (linesD s).2 (runD ⟨[], none⟩ (linesD s).1 1) = ([], 250, (n : Int)) := by
                rw [he1, runD, hst]; rfl
              rw [hfin]
              (repeat' first
    | refine w_seq ?_ | refine w_rg ?_ | refine wo_nil ?_ | refine g_skU ?_
    | ((first | apply s_plain | apply s_void | apply s_guard); · simp only [go_sem, Nat.reduceEqDiff, Nat.reduceAdd, Nat.reduceLeDiff, f0_5, f6, Option.isSome_none]; (first | done | rfl))
    | ((first | apply g_T | apply g_F); · intro hb; simp only [go_sem, Nat.reduceEqDiff, Nat.reduceAdd, Nat.reduceLeDiff, f0_5, f6, Option.isSome_none, hb]; (first | done | rfl))
    | ((first | apply g_gT | apply g_gF); · intro hb hc; simp only [go_sem, Nat.reduceEqDiff, Nat.reduceAdd, Nat.reduceLeDiff, f0_5, f6, Option.isSome_none, hb, hc]; (first | done | rfl))
    | refine g_skT ?_ | refine g_skF ?_
    | ((first | apply g_goT | apply g_goF); · simp only [go_sem, Nat.reduceEqDiff, Nat.reduceAdd, Nat.reduceLeDiff, f0_5, f6, Option.isSome_none]; (first | done | rfl))
    | (refine w_condT ?_ ?_; · simp only [go_sem, Nat.reduceEqDiff, Nat.reduceAdd, Nat.reduceLeDiff, f0_5, f6, Option.isSome_none]; (first | done | rfl))
    | (refine w_condF ?_ ?_; · simp only [go_sem, Nat.reduceEqDiff, Nat.reduceAdd, Nat.reduceLeDiff, f0_5, f6, Option.isSome_none]; (first | done | rfl))
    | refine w_skip ?_ | refine w_exit ?_ | refine w_ret ?_
    | fail
    )
              exact ⟨by first | exact .inr rfl | exact .inr trivial | exact .inl rfl, by simp only [go_sem, Nat.reduceEqDiff, Nat.reduceAdd, Nat.reduceLeDiff, retOf, resOf, dfs, List.map_nil]; first | done | rfl⟩
            | some r' =>
              obtain ⟨hr3, hm3⟩ := hr2 r' hst
              rw [runD, hst] at he1
              simp only at he1
              (repeat' first
    | refine w_seq ?_ | refine w_rg ?_ | refine wo_nil ?_ | refine g_skU ?_
    | ((first | apply s_plain | apply s_void | apply s_guard); · simp only [go_sem, Nat.reduceEqDiff, Nat.reduceAdd, Nat.reduceLeDiff, f0_5, f6, Option.isSome_some, w1]; (first | done | rfl))
    | ((first | apply g_T | apply g_F); · intro hb; simp only [go_sem, Nat.reduceEqDiff, Nat.reduceAdd, Nat.reduceLeDiff, f0_5, f6, Option.isSome_some, w1, hb]; (first | done | rfl))
    | ((first | apply g_gT | apply g_gF); · intro hb hc; simp only [go_sem, Nat.reduceEqDiff, Nat.reduceAdd, Nat.reduceLeDiff, f0_5, f6, Option.isSome_some, w1, hb, hc]; (first | done | rfl))
    | refine g_skT ?_ | refine g_skF ?_
    | ((first | apply g_goT | apply g_goF); · simp only [go_sem, Nat.reduceEqDiff, Nat.reduceAdd, Nat.reduceLeDiff, f0_5, f6, Option.isSome_some, w1]; (first | done | rfl))
    | (refine w_condT ?_ ?_; · simp only [go_sem, Nat.reduceEqDiff, Nat.reduceAdd, Nat.reduceLeDiff, f0_5, f6, Option.isSome_some, w1]; (first | done | rfl))
    | (refine w_condF ?_ ?_; · simp only [go_sem, Nat.reduceEqDiff, Nat.reduceAdd, Nat.reduceLeDiff, f0_5, f6, Option.isSome_some, w1]; (first | done | rfl))
    | refine w_skip ?_ | refine w_exit ?_ | refine w_ret ?_
    | fail
    )
              refine ⟨b.length, by simp; omega, b, r', n + 1, rfl, by simp only [go_sem, Nat.reduceEqDiff, Nat.reduceAdd, Nat.reduceLeDiff], by simp only [go_sem, Nat.reduceEqDiff, Nat.reduceAdd, Nat.reduceLeDiff], hr3, hm3, he1, he2, by omega⟩
    · refine ⟨s, ⟨[], none⟩, 1, rfl, by simp only [go_sem, Nat.reduceEqDiff, Nat.reduceAdd, Nat.reduceLeDiff], by simp only [go_sem, Nat.reduceEqDiff, Nat.reduceAdd, Nat.reduceLeDiff]; rfl, ?_, may0, rfl, rfl, by omega⟩
      have hF : Fresh ((St.nil.new 2000014 ⟨5, [.agg [.em, txt [], .em, .em, .sc .nilFunc]], true, true⟩).put 2000014 0 (some ⟨5, [.agg [.em, txt [], .em, .em, .fn 38 [at0] []]], true, true⟩)) := (Fresh.nil.new _ _).put (x := ⟨5, [.agg [.em, txt [], .em, .em, .sc .nilFunc]], true, true⟩) rfl _
      exact ⟨.em, [], .em, .em, .fn 38 [at0] [], rfl, ⟨hF, [], .em, rfl, rfl⟩, rfl, rfl, rfl, rfl⟩
end
end Go.Proofs.YtdlfomiclkpibaaDoorPv
namespace Go.Proofs.YtdlfomiclkpibaaDoorPv
open Go
set_option linter.unusedSimpArgs false
set_option linter.unusedVariables false
set_option maxHeartbeats 4000000
attribute [local go_sem ↓] e_mv e_pick e_bin e_eqs e_beq e_un e_cvi e_str e_s2b e_b2s e_box e_build e_bsl e_ld e_st e_nck e_mkf e_slcS e_slcL e_fa e_fld e_ia e_iaa e_ix e_ixa e_ext e_lenS e_lenL e_mnmx e_app e_appb e_bbx e_msl e_clr e_call e_callv pa_t pa_c pa_f slcSP_str hiOf_some hiOf_none loOf_some loOf_none set_eq set_ne
attribute [local go_sem] pv pv1 simple frOf_0 frOf_1 frOf_2 frOf_3 frOf_4 frOf_5 ne_eq not_false_eq_true if_true Bool.false_eq_true if_false pbin punary Option.map_some Option.bind_some pick_and pick_or opt_true Bool.true_and Bool.and_self Bool.and_true Bool.true_or Bool.false_or Bool.not_true Bool.not_false callE pcall_eq List.map_cons List.map_nil List.append_nil List.nil_append List.cons_append mapM_cons' mapM_nil' dep_eq fz_sc fz_sl fz_em fz_fn fz_fp fz_agg fz_tu fz_bx fz_ob Nat.lt_irrefl Nat.zero_lt_one Nat.lt_add_one flat clL cl Bool.or_true okc_sc okc_em okc_sl okc_ob okc_bx okc_fp okc_fn okc_agg okc_ifc cells_agg cells_sc cells_sl cells_em cells_ob cells_fn cells_bx cells_fp List.length_cons List.length_nil Nat.zero_add and_self true_and and_true new_m new_c put_m put_c nil_m nil_c deref List.getElem?_cons_zero List.getElem?_cons_succ List.drop_zero List.drop_succ_cons List.take_succ_cons List.take_zero Nat.le_refl false_and and_false decide_true decide_false lenP_em lenP_nil lenP_sl lenP_ob Int.ofNat_zero
set_option maxRecDepth 8000
/-- transhipment/transhipmentref06.Parse -/
def d17 : Def := (.code 1 [.cell 2 (.some 3)] (.seq (.rg false [⟨.some 2, .none, .box (.c (.agg #[.slice .none 0 0, .int .i64 0, .int .i64 0]))⟩]) (.seq (.seq (.rg false [⟨.some 8, .none, .mv (.t 0)⟩, ⟨.some 9, .none, .lenS (.t 8)⟩, ⟨.some 10, .none, .bin .gtr (.t 9) (.c (.int .i64 8192))⟩]) (.cond (.t 10) (.seq (.rg false [⟨.some 11, .none, .build (.agg #[.slice .none 0 0, .int .i64 0, .int .i64 0]) [(1, (1, .c (.int .i64 2)))]⟩, ⟨.none, .none, .st 3 (.t 2) (.t 11)⟩]) .ret) .skip)) (.seq (.rg false [⟨.some 12, .none, .build (.agg #[.slice .none 0 0, .bool false, .bool false]) [(2, (1, .c (.bool true)))]⟩, ⟨.some 3, .none, .box (.c (.agg #[.slice .none 0 0, .bool false, .bool false]))⟩, ⟨.none, .none, .st 3 (.t 3) (.t 12)⟩]) (.seq (.rg false [⟨.some 4, .none, .mv (.c (.int .i64 1))⟩]) (.seq (.rg false [⟨.some 5, .none, .mv (.c (.int .i64 0))⟩]) (.seq (.seq (.rg false [⟨.some 6, .none, .mv (.c (.int .i64 0))⟩]) (.block 0 (.loop (.seq (.seq (.rg false [⟨.some 13, .none, .mv (.t 6)⟩, ⟨.some 14, .none, .mv (.t 0)⟩, ⟨.some 15, .none, .lenS (.t 14)⟩, ⟨.some 16, .none, .bin .lss (.t 13) (.t 15)⟩]) (.cond (.t 16) .skip (.exit 0))) (.seq (.block 1 (.seq (.seq (.rg false [⟨.some 19, .none, .mv (.t 0)⟩, ⟨.some 20, .none, .mv (.t 6)⟩, ⟨.some 21, .none, .ix (.t 19) (.t 20)⟩, ⟨.some 22, .none, .bin .neq (.t 21) (.c (.int .u8 10))⟩]) (.cond (.t 22) (.exit 1) .skip)) (.seq (.rg false [⟨.some 23, .none, .mv (.t 0)⟩, ⟨.some 24, .none, .mv (.t 5)⟩, ⟨.some 25, .none, .mv (.t 6)⟩, ⟨.some 26, .none, .slcS (.t 23) (.some (.t 24)) (.some (.t 25))⟩, ⟨.some 7, .none, .mv (.t 26)⟩]) (.seq (.rg false [⟨.some 27, .none, .mv (.t 6)⟩, ⟨.some 28, .none, .bin .add (.t 27) (.c (.int .i64 1))⟩, ⟨.some 5, .none, .mv (.t 28)⟩]) (.seq (.seq (.rg false [⟨.some 29, .none, .mv (.t 7)⟩, ⟨.some 30, .none, .call 20 .pure [.t 29]⟩, ⟨.some 31, .none, .un .not (.t 30)⟩]) (.cond (.t 31) (.rg false [⟨.some 32, .none, .ld (.some 3) (.t 3)⟩, ⟨.some 33, .none, .mv (.t 7)⟩, ⟨.some 34, .none, .call 41 .opn [.t 32, .t 33]⟩, ⟨.none, .none, .st 3 (.t 3) (.t 34)⟩]) .skip)) (.seq (.seq (.rg false [⟨.some 35, .none, .fa 2 (.t 3)⟩, ⟨.some 36, .none, .ld .none (.t 35)⟩, ⟨.some 37, .none, .un .not (.t 36)⟩]) (.cond (.t 37) (.seq (.rg false [⟨.some 38, .none, .mv (.t 4)⟩, ⟨.some 39, .none, .build (.agg #[.slice .none 0 0, .int .i64 0, .int .i64 0]) [(1, (1, .c (.int .i64 250))), (2, (1, .t 38))]⟩, ⟨.none, .none, .st 3 (.t 2) (.t 39)⟩]) .ret) .skip)) (.rg false [⟨.some 40, .none, .mv (.t 4)⟩, ⟨.some 41, .none, .bin .add (.t 40) (.c (.int .i64 1))⟩, ⟨.some 4, .none, .mv (.t 41)⟩]))))))) (.rg false [⟨.some 17, .none, .mv (.t 6)⟩, ⟨.some 18, .none, .bin .add (.t 17) (.c (.int .i64 1))⟩, ⟨.some 6, .none, .mv (.t 18)⟩])))))) (.seq (.seq (.rg false [⟨.some 42, .none, .mv (.t 5)⟩, ⟨.some 43, .none, .mv (.t 0)⟩, ⟨.some 44, .none, .lenS (.t 43)⟩, ⟨.some 45, .none, .bin .lss (.t 42) (.t 44)⟩, ⟨.some 46, .none, .mv (.t 45)⟩, ⟨.some 47, .some (46, false), .fa 1 (.t 3)⟩, ⟨.some 48, .some (46, false), .ld .none (.t 47)⟩, ⟨.some 49, .none, .pick (.t 46) (.c (.bool true)) (.t 48)⟩]) (.cond (.t 49) (.seq (.rg false [⟨.some 50, .none, .mv (.t 4)⟩, ⟨.some 51, .none, .build (.agg #[.slice .none 0 0, .int .i64 0, .int .i64 0]) [(1, (1, .c (.int .i64 250))), (2, (1, .t 50))]⟩, ⟨.none, .none, .st 3 (.t 2) (.t 51)⟩]) .ret) .skip)) (.seq (.rg false [⟨.some 52, .none, .fa 0 (.t 3)⟩, ⟨.some 53, .none, .ld .none (.t 52)⟩, ⟨.some 54, .none, .build (.agg #[.slice .none 0 0, .int .i64 0, .int .i64 0]) [(0, (1, .t 53))]⟩, ⟨.none, .none, .st 3 (.t 2) (.t 54)⟩]) .ret)))))))))
def lds : List (Nat × Def) := [(17, d17)]
section
variable {env : Nat → Option Def} {fr : Fr} {σ σ' σ'' : St} {K : Fr → St → Prop} {Q : X → Fr → St → Prop} {p : PV} {bs : List UInt8}
theorem a41 (F : Has ldf env) (E : Has lle env) (L : Has ldq env) (R : Has ldr env) {r : Rs} {s : List UInt8} (hr : Ls σ p r) (hm : May r) (hb : blankD s = false) (hs : s.length ≤ 8192) :
    ∃ q σ', EV env 41 [.agg [p, .sc (.bool r.now.isSome), .sc (.bool true)], txt s] σ = some (q, σ') ∧ Lr σ' q (stepD r s) ∧ Kp (2000000 ≤ ·) σ σ' := by
  obtain ⟨m1, m2, m3⟩ := hm
  cases hn : r.now with
  | none =>
    obtain ⟨q, σ', h1, h2, h3⟩ := a41n E L R hr hn m1 hs
    have e : stepD r s = outD r s := by unfold stepD; rw [hb, hn]; rfl
    rw [e]
    exact ⟨q, σ', h1, h2, h3.mono fun o ho => .inl ho⟩
  | some d =>
    rw [hn] at m3
    obtain ⟨q, σ', h1, h2, h3⟩ := a41o F E L R hr hn m1 m3.1.n (by rw [← m3.1.e]; exact m3.1.n) hs
    have e : stepD r s = inD r d s := by unfold stepD; rw [hb, hn]; rfl
    rw [e]
    exact ⟨q, σ', h1, h2, h3⟩
theorem a17 (F : Has ldf env) (E : Has lle env) (L : Has ldq env) (R : Has ldr env) (S : Has lds env) {s : List UInt8} (hs : s.length ≤ 4000000000) :
    AV env 17 [txt s] = some (.agg [.sl (dfs (parseD s).1), .sc (.int .i64 (parseD s).2.1), .sc (.int .i64 (parseD s).2.2)]) := by
  refine AV_wp (S (17, d17) (by simp [lds])) rfl ?_
  by_cases hl : s.length > 8192
  · have hd : decide ((s.length : Int) > 8192) = true := by simp; omega
    have hp : parseD s = ([], 2, 0) := by unfold parseD; rw [if_pos hl]
    (repeat' first
    | refine w_seq ?_ | refine w_rg ?_ | refine wo_nil ?_ | refine g_skU ?_
    | ((first | apply s_plain | apply s_void | apply s_guard); · simp only [go_sem, Nat.reduceEqDiff, Nat.reduceAdd, Nat.reduceLeDiff, hd, ba_data, ba_size, ba_toList, ba_extract, ba_append, List.toList_toArray, splice, fillP, fillE, List.modify_zero_cons, List.replicate_succ, List.replicate_zero, List.set_cons_zero, List.drop_zero, List.set_cons_succ]; (first | done | rfl))
    | ((first | apply g_T | apply g_F); · intro hb; simp only [go_sem, Nat.reduceEqDiff, Nat.reduceAdd, Nat.reduceLeDiff, hd, ba_data, ba_size, ba_toList, ba_extract, ba_append, List.toList_toArray, splice, fillP, fillE, List.modify_zero_cons, List.replicate_succ, List.replicate_zero, List.set_cons_zero, List.drop_zero, List.set_cons_succ, hb]; (first | done | rfl))
    | ((first | apply g_gT | apply g_gF); · intro hb hc; simp only [go_sem, Nat.reduceEqDiff, Nat.reduceAdd, Nat.reduceLeDiff, hd, ba_data, ba_size, ba_toList, ba_extract, ba_append, List.toList_toArray, splice, fillP, fillE, List.modify_zero_cons, List.replicate_succ, List.replicate_zero, List.set_cons_zero, List.drop_zero, List.set_cons_succ, hb, hc]; (first | done | rfl))
    | refine g_skT ?_ | refine g_skF ?_
    | ((first | apply g_goT | apply g_goF); · simp only [go_sem, Nat.reduceEqDiff, Nat.reduceAdd, Nat.reduceLeDiff, hd, ba_data, ba_size, ba_toList, ba_extract, ba_append, List.toList_toArray, splice, fillP, fillE, List.modify_zero_cons, List.replicate_succ, List.replicate_zero, List.set_cons_zero, List.drop_zero, List.set_cons_succ]; (first | done | rfl))
    | (refine w_condT ?_ ?_; · simp only [go_sem, Nat.reduceEqDiff, Nat.reduceAdd, Nat.reduceLeDiff, hd, ba_data, ba_size, ba_toList, ba_extract, ba_append, List.toList_toArray, splice, fillP, fillE, List.modify_zero_cons, List.replicate_succ, List.replicate_zero, List.set_cons_zero, List.drop_zero, List.set_cons_succ]; (first | done | rfl))
    | (refine w_condF ?_ ?_; · simp only [go_sem, Nat.reduceEqDiff, Nat.reduceAdd, Nat.reduceLeDiff, hd, ba_data, ba_size, ba_toList, ba_extract, ba_append, List.toList_toArray, splice, fillP, fillE, List.modify_zero_cons, List.replicate_succ, List.replicate_zero, List.set_cons_zero, List.drop_zero, List.set_cons_succ]; (first | done | rfl))
    | refine w_skip ?_ | refine w_exit ?_ | refine w_ret ?_
    | fail
    )
    exact ⟨by first | exact .inr rfl | exact .inr trivial | exact .inl rfl, by simp only [go_sem, Nat.reduceEqDiff, Nat.reduceAdd, Nat.reduceLeDiff, retOf, resOf, hp, dfs, List.map_nil, splice, fillP, fillE, List.modify_zero_cons, List.replicate_succ, List.replicate_zero, List.set_cons_zero, List.drop_zero]; first | done | rfl⟩
  · have hd : decide ((s.length : Int) > 8192) = false := by simp; omega
    have hp : parseD s = endD (linesD s).2 (runD ⟨[], none⟩ (linesD s).1 1) := by unfold parseD; rw [if_neg hl]
    rw [hp]
    (repeat' first
    | refine w_seq ?_ | refine w_rg ?_ | refine wo_nil ?_ | refine g_skU ?_
    | ((first | apply s_plain | apply s_void | apply s_guard); · simp only [go_sem, Nat.reduceEqDiff, Nat.reduceAdd, Nat.reduceLeDiff, hd, ba_data, ba_size, ba_toList, ba_extract, ba_append, List.toList_toArray, splice, fillP, fillE, List.modify_zero_cons, List.replicate_succ, List.replicate_zero, List.set_cons_zero, List.drop_zero, List.set_cons_succ]; (first | done | rfl))
    | ((first | apply g_T | apply g_F); · intro hb; simp only [go_sem, Nat.reduceEqDiff, Nat.reduceAdd, Nat.reduceLeDiff, hd, ba_data, ba_size, ba_toList, ba_extract, ba_append, List.toList_toArray, splice, fillP, fillE, List.modify_zero_cons, List.replicate_succ, List.replicate_zero, List.set_cons_zero, List.drop_zero, List.set_cons_succ, hb]; (first | done | rfl))
    | ((first | apply g_gT | apply g_gF); · intro hb hc; simp only [go_sem, Nat.reduceEqDiff, Nat.reduceAdd, Nat.reduceLeDiff, hd, ba_data, ba_size, ba_toList, ba_extract, ba_append, List.toList_toArray, splice, fillP, fillE, List.modify_zero_cons, List.replicate_succ, List.replicate_zero, List.set_cons_zero, List.drop_zero, List.set_cons_succ, hb, hc]; (first | done | rfl))
    | refine g_skT ?_ | refine g_skF ?_
    | ((first | apply g_goT | apply g_goF); · simp only [go_sem, Nat.reduceEqDiff, Nat.reduceAdd, Nat.reduceLeDiff, hd, ba_data, ba_size, ba_toList, ba_extract, ba_append, List.toList_toArray, splice, fillP, fillE, List.modify_zero_cons, List.replicate_succ, List.replicate_zero, List.set_cons_zero, List.drop_zero, List.set_cons_succ]; (first | done | rfl))
    | (refine w_condT ?_ ?_; · simp only [go_sem, Nat.reduceEqDiff, Nat.reduceAdd, Nat.reduceLeDiff, hd, ba_data, ba_size, ba_toList, ba_extract, ba_append, List.toList_toArray, splice, fillP, fillE, List.modify_zero_cons, List.replicate_succ, List.replicate_zero, List.set_cons_zero, List.drop_zero, List.set_cons_succ]; (first | done | rfl))
    | (refine w_condF ?_ ?_; · simp only [go_sem, Nat.reduceEqDiff, Nat.reduceAdd, Nat.reduceLeDiff, hd, ba_data, ba_size, ba_toList, ba_extract, ba_append, List.toList_toArray, splice, fillP, fillE, List.modify_zero_cons, List.replicate_succ, List.replicate_zero, List.set_cons_zero, List.drop_zero, List.set_cons_succ]; (first | done | rfl))
    | refine w_skip ?_ | refine w_exit ?_ | refine w_ret ?_
    | fail
    )
    refine w_block (w_loopF (fun m fr σ => ∃ (i from_ : Nat) (p : PV) (r : Rs) (n : Nat), m = s.length - i ∧ i ≤ s.length ∧ from_ ≤ i ∧ fr 6 = .sc (.int .i64 (i : Int)) ∧ fr 5 = .sc (.int .i64 (from_ : Int)) ∧ fr 4 = .sc (.int .i64 (n : Int)) ∧
        σ.m 2000002 0 = some ⟨3, [.agg [.em, .sc (.int .i64 0), .sc (.int .i64 0)]], true, true⟩ ∧ σ.m 2000003 0 = some ⟨3, [.agg [p, .sc (.bool r.now.isSome), .sc (.bool true)]], true, true⟩ ∧ Ls σ p r ∧ May r ∧ (10 : UInt8) ∉ (s.take i).drop from_ ∧
        runD ⟨[], none⟩ (linesD s).1 1 = runD r (linesD (s.drop from_)).1 n ∧ (linesD s).2 = (linesD (s.drop from_)).2 ∧ n ≤ i + 1) ?_ s.length ?_)
    · rintro m fr1 σ1 ⟨i, from_, p, r, n, rfl, hi, hfi, f6, f5, f4, hm2, hm3, hr, hm, hno, he1, he2, hn⟩ hfr
      have f0_0 := hfr 0 rfl; have f0_2 := hfr 2 rfl; have f0_3 := hfr 3 rfl; try (simp only [go_sem, Nat.reduceEqDiff, Nat.reduceAdd, Nat.reduceLeDiff] at f0_0); try (simp only [go_sem, Nat.reduceEqDiff, Nat.reduceAdd, Nat.reduceLeDiff] at f0_2); try (simp only [go_sem, Nat.reduceEqDiff, Nat.reduceAdd, Nat.reduceLeDiff] at f0_3)
      by_cases hlt : i < s.length
      · have hd : decide ((i : Int) < (s.length : Int)) = true := by simp; omega
        have e1 : (0 : Int) ≤ (i : Int) := by omega
        have w1 : IntKind.i64.wrap ((i : Int) + 1) = ((i + 1 : Nat) : Int) := by rw [IntKind.wrap_i64]; omega
        have w2 : IntKind.i64.wrap ((n : Int) + 1) = ((n + 1 : Nat) : Int) := by rw [IntKind.wrap_i64]; omega
        have hq := byteD_q hlt
        have b1 : bound s.length (.sc (.int .i64 (i : Int))) = some i := bound_nat (by omega)
        have b2 : bound i (.sc (.int .i64 (from_ : Int))) = some from_ := bound_nat (by omega)
        (repeat' first
    | refine w_seq ?_ | refine w_rg ?_ | refine wo_nil ?_ | refine g_skU ?_
    | ((first | apply s_plain | apply s_void | apply s_guard); · simp only [go_sem, Nat.reduceEqDiff, Nat.reduceAdd, Nat.reduceLeDiff, f0_0, f0_2, f0_3, f4, f5, f6, hd, ba_data, ba_size, ba_toList, ba_extract, ba_append, List.toList_toArray]; (first | done | rfl))
    | ((first | apply g_T | apply g_F); · intro hb; simp only [go_sem, Nat.reduceEqDiff, Nat.reduceAdd, Nat.reduceLeDiff, f0_0, f0_2, f0_3, f4, f5, f6, hd, ba_data, ba_size, ba_toList, ba_extract, ba_append, List.toList_toArray, hb]; (first | done | rfl))
    | ((first | apply g_gT | apply g_gF); · intro hb hc; simp only [go_sem, Nat.reduceEqDiff, Nat.reduceAdd, Nat.reduceLeDiff, f0_0, f0_2, f0_3, f4, f5, f6, hd, ba_data, ba_size, ba_toList, ba_extract, ba_append, List.toList_toArray, hb, hc]; (first | done | rfl))
    | refine g_skT ?_ | refine g_skF ?_
    | ((first | apply g_goT | apply g_goF); · simp only [go_sem, Nat.reduceEqDiff, Nat.reduceAdd, Nat.reduceLeDiff, f0_0, f0_2, f0_3, f4, f5, f6, hd, ba_data, ba_size, ba_toList, ba_extract, ba_append, List.toList_toArray]; (first | done | rfl))
    | (refine w_condT ?_ ?_; · simp only [go_sem, Nat.reduceEqDiff, Nat.reduceAdd, Nat.reduceLeDiff, f0_0, f0_2, f0_3, f4, f5, f6, hd, ba_data, ba_size, ba_toList, ba_extract, ba_append, List.toList_toArray]; (first | done | rfl))
    | (refine w_condF ?_ ?_; · simp only [go_sem, Nat.reduceEqDiff, Nat.reduceAdd, Nat.reduceLeDiff, f0_0, f0_2, f0_3, f4, f5, f6, hd, ba_data, ba_size, ba_toList, ba_extract, ba_append, List.toList_toArray]; (first | done | rfl))
    | refine w_skip ?_ | refine w_exit ?_ | refine w_ret ?_
    | fail
    )
        refine w_block ?_
        (repeat' first
    | refine w_seq ?_ | refine w_rg ?_ | refine wo_nil ?_ | refine g_skU ?_
    | ((first | apply s_plain | apply s_void | apply s_guard); · simp only [go_sem, Nat.reduceEqDiff, Nat.reduceAdd, Nat.reduceLeDiff, f0_0, f0_2, f0_3, f4, f5, f6, e1, Int.toNat_natCast, hq, ba_data, ba_size, ba_toList, ba_extract, ba_append, List.toList_toArray, u8_ne (byteD s i) 10 (z := 10) rfl]; (first | done | rfl))
    | ((first | apply g_T | apply g_F); · intro hb; simp only [go_sem, Nat.reduceEqDiff, Nat.reduceAdd, Nat.reduceLeDiff, f0_0, f0_2, f0_3, f4, f5, f6, e1, Int.toNat_natCast, hq, ba_data, ba_size, ba_toList, ba_extract, ba_append, List.toList_toArray, u8_ne (byteD s i) 10 (z := 10) rfl, hb]; (first | done | rfl))
    | ((first | apply g_gT | apply g_gF); · intro hb hc; simp only [go_sem, Nat.reduceEqDiff, Nat.reduceAdd, Nat.reduceLeDiff, f0_0, f0_2, f0_3, f4, f5, f6, e1, Int.toNat_natCast, hq, ba_data, ba_size, ba_toList, ba_extract, ba_append, List.toList_toArray, u8_ne (byteD s i) 10 (z := 10) rfl, hb, hc]; (first | done | rfl))
    | refine g_skT ?_ | refine g_skF ?_
    | ((first | apply g_goT | apply g_goF); · simp only [go_sem, Nat.reduceEqDiff, Nat.reduceAdd, Nat.reduceLeDiff, f0_0, f0_2, f0_3, f4, f5, f6, e1, Int.toNat_natCast, hq, ba_data, ba_size, ba_toList, ba_extract, ba_append, List.toList_toArray, u8_ne (byteD s i) 10 (z := 10) rfl]; (first | done | rfl))
    | fail
    )
        cases h10 : (byteD s i != 10) with
        | true =>
          (repeat' first
    | refine w_seq ?_ | refine w_rg ?_ | refine wo_nil ?_ | refine g_skU ?_
    | ((first | apply s_plain | apply s_void | apply s_guard); · simp only [go_sem, Nat.reduceEqDiff, Nat.reduceAdd, Nat.reduceLeDiff]; (first | done | rfl))
    | ((first | apply g_T | apply g_F); · intro hb; simp only [go_sem, Nat.reduceEqDiff, Nat.reduceAdd, Nat.reduceLeDiff, hb]; (first | done | rfl))
    | ((first | apply g_gT | apply g_gF); · intro hb hc; simp only [go_sem, Nat.reduceEqDiff, Nat.reduceAdd, Nat.reduceLeDiff, hb, hc]; (first | done | rfl))
    | refine g_skT ?_ | refine g_skF ?_
    | ((first | apply g_goT | apply g_goF); · simp only [go_sem, Nat.reduceEqDiff, Nat.reduceAdd, Nat.reduceLeDiff]; (first | done | rfl))
    | (refine w_condT ?_ ?_; · simp only [go_sem, Nat.reduceEqDiff, Nat.reduceAdd, Nat.reduceLeDiff]; (first | done | rfl))
    | (refine w_condF ?_ ?_; · simp only [go_sem, Nat.reduceEqDiff, Nat.reduceAdd, Nat.reduceLeDiff]; (first | done | rfl))
    | refine w_skip ?_ | refine w_exit ?_ | refine w_ret ?_
    | fail
    )
          try simp only [if_true]
          (repeat' first
    | refine w_seq ?_ | refine w_rg ?_ | refine wo_nil ?_ | refine g_skU ?_
    | ((first | apply s_plain | apply s_void | apply s_guard); · simp only [go_sem, Nat.reduceEqDiff, Nat.reduceAdd, Nat.reduceLeDiff, f6, w1]; (first | done | rfl))
    | ((first | apply g_T | apply g_F); · intro hb; simp only [go_sem, Nat.reduceEqDiff, Nat.reduceAdd, Nat.reduceLeDiff, f6, w1, hb]; (first | done | rfl))
    | ((first | apply g_gT | apply g_gF); · intro hb hc; simp only [go_sem, Nat.reduceEqDiff, Nat.reduceAdd, Nat.reduceLeDiff, f6, w1, hb, hc]; (first | done | rfl))
    | refine g_skT ?_ | refine g_skF ?_
    | ((first | apply g_goT | apply g_goF); · simp only [go_sem, Nat.reduceEqDiff, Nat.reduceAdd, Nat.reduceLeDiff, f6, w1]; (first | done | rfl))
    | (refine w_condT ?_ ?_; · simp only [go_sem, Nat.reduceEqDiff, Nat.reduceAdd, Nat.reduceLeDiff, f6, w1]; (first | done | rfl))
    | (refine w_condF ?_ ?_; · simp only [go_sem, Nat.reduceEqDiff, Nat.reduceAdd, Nat.reduceLeDiff, f6, w1]; (first | done | rfl))
    | refine w_skip ?_ | refine w_exit ?_ | refine w_ret ?_
    | fail
    )
          refine ⟨s.length - (i + 1), by omega, i + 1, from_, p, r, n, rfl, by omega, by omega, by simp only [go_sem, Nat.reduceEqDiff, Nat.reduceAdd, Nat.reduceLeDiff], by simp only [go_sem, Nat.reduceEqDiff, Nat.reduceAdd, Nat.reduceLeDiff, f5], by simp only [go_sem, Nat.reduceEqDiff, Nat.reduceAdd, Nat.reduceLeDiff, f4], hm2, hm3, hr, hm, ?_, he1, he2, by omega⟩
          rw [List.take_add_one, hq, List.drop_append_of_le_length (by rw [List.length_take]; omega)]
          intro h
          rcases List.mem_append.1 h with h | h
          · exact hno h
          · simp at h
            simp [← h] at h10
        | false =>
          have h10' : byteD s i = 10 := by simpa [bne] using h10
          have hsp : s.drop from_ = (s.take i).drop from_ ++ 10 :: s.drop (i + 1) := by
            have h2 : s.drop i = 10 :: s.drop (i + 1) := by
              rw [← h10', byteD_at hlt]
              exact List.drop_eq_getElem_cons hlt
            rw [← h2]
            conv => lhs; rw [← List.take_append_drop i s]
            rw [List.drop_append_of_le_length (by rw [List.length_take]; omega)]
          generalize ha : (s.take i).drop from_ = a at hno hsp
          have hal : a.length ≤ 8192 := by rw [← ha, List.length_drop, List.length_take]; omega
          rw [hsp, linesD_at hno] at he1 he2
          simp only at he1 he2
          have h20 := a20 L (l := a) (by omega)
          (repeat' first
    | refine w_seq ?_ | refine w_rg ?_ | refine wo_nil ?_ | refine g_skU ?_
    | ((first | apply s_plain | apply s_void | apply s_guard); · simp only [go_sem, Nat.reduceEqDiff, Nat.reduceAdd, Nat.reduceLeDiff, f0_0, f0_2, f0_3, f4, f5, f6, ba_data, ba_size, ba_toList, ba_extract, ba_append, List.toList_toArray, b1, b2, ha, w1]; (first | done | rfl))
    | ((first | apply g_T | apply g_F); · intro hb; simp only [go_sem, Nat.reduceEqDiff, Nat.reduceAdd, Nat.reduceLeDiff, f0_0, f0_2, f0_3, f4, f5, f6, ba_data, ba_size, ba_toList, ba_extract, ba_append, List.toList_toArray, b1, b2, ha, w1, hb]; (first | done | rfl))
    | ((first | apply g_gT | apply g_gF); · intro hb hc; simp only [go_sem, Nat.reduceEqDiff, Nat.reduceAdd, Nat.reduceLeDiff, f0_0, f0_2, f0_3, f4, f5, f6, ba_data, ba_size, ba_toList, ba_extract, ba_append, List.toList_toArray, b1, b2, ha, w1, hb, hc]; (first | done | rfl))
    | refine g_skT ?_ | refine g_skF ?_
    | ((first | apply g_goT | apply g_goF); · simp only [go_sem, Nat.reduceEqDiff, Nat.reduceAdd, Nat.reduceLeDiff, f0_0, f0_2, f0_3, f4, f5, f6, ba_data, ba_size, ba_toList, ba_extract, ba_append, List.toList_toArray, b1, b2, ha, w1]; (first | done | rfl))
    | (refine w_condT ?_ ?_; · simp only [go_sem, Nat.reduceEqDiff, Nat.reduceAdd, Nat.reduceLeDiff, f0_0, f0_2, f0_3, f4, f5, f6, ba_data, ba_size, ba_toList, ba_extract, ba_append, List.toList_toArray, b1, b2, ha, w1]; (first | done | rfl))
    | (refine w_condF ?_ ?_; · simp only [go_sem, Nat.reduceEqDiff, Nat.reduceAdd, Nat.reduceLeDiff, f0_0, f0_2, f0_3, f4, f5, f6, ba_data, ba_size, ba_toList, ba_extract, ba_append, List.toList_toArray, b1, b2, ha, w1]; (first | done | rfl))
    | refine w_skip ?_ | refine w_exit ?_ | refine w_ret ?_
    | fail
    )
          cases hbl : blankD a with
          | true =>
            rw [hbl] at h20
            have hst : stepD r a = some r := by unfold stepD; rw [hbl]; rfl
            rw [runD, hst] at he1
            simp only at he1
            (repeat' first
    | refine w_seq ?_ | refine w_rg ?_ | refine wo_nil ?_ | refine g_skU ?_
    | ((first | apply s_plain | apply s_void | apply s_guard); · simp only [go_sem, Nat.reduceEqDiff, Nat.reduceAdd, Nat.reduceLeDiff, f0_0, f0_2, f0_3, h20, hm3, f4, f6, w1, w2]; (first | done | rfl))
    | ((first | apply g_T | apply g_F); · intro hb; simp only [go_sem, Nat.reduceEqDiff, Nat.reduceAdd, Nat.reduceLeDiff, f0_0, f0_2, f0_3, h20, hm3, f4, f6, w1, w2, hb]; (first | done | rfl))
    | ((first | apply g_gT | apply g_gF); · intro hb hc; simp only [go_sem, Nat.reduceEqDiff, Nat.reduceAdd, Nat.reduceLeDiff, f0_0, f0_2, f0_3, h20, hm3, f4, f6, w1, w2, hb, hc]; (first | done | rfl))
    | refine g_skT ?_ | refine g_skF ?_
    | ((first | apply g_goT | apply g_goF); · simp only [go_sem, Nat.reduceEqDiff, Nat.reduceAdd, Nat.reduceLeDiff, f0_0, f0_2, f0_3, h20, hm3, f4, f6, w1, w2]; (first | done | rfl))
    | (refine w_condT ?_ ?_; · simp only [go_sem, Nat.reduceEqDiff, Nat.reduceAdd, Nat.reduceLeDiff, f0_0, f0_2, f0_3, h20, hm3, f4, f6, w1, w2]; (first | done | rfl))
    | (refine w_condF ?_ ?_; · simp only [go_sem, Nat.reduceEqDiff, Nat.reduceAdd, Nat.reduceLeDiff, f0_0, f0_2, f0_3, h20, hm3, f4, f6, w1, w2]; (first | done | rfl))
    | refine w_skip ?_ | refine w_exit ?_ | refine w_ret ?_
    | fail
    )
            refine ⟨s.length - (i + 1), by omega, i + 1, i + 1, p, r, n + 1, rfl, by omega, by omega, by simp only [go_sem, Nat.reduceEqDiff, Nat.reduceAdd, Nat.reduceLeDiff], by simp only [go_sem, Nat.reduceEqDiff, Nat.reduceAdd, Nat.reduceLeDiff], by simp only [go_sem, Nat.reduceEqDiff, Nat.reduceAdd, Nat.reduceLeDiff], hm2, hm3, hr, hm, ?_, he1, he2, by omega⟩
            rw [List.drop_take]; simp
          | false =>
            rw [hbl] at h20
            obtain ⟨q, σ2, hev, ⟨⟨p2, o, rfl, ok1, ok2, hnx⟩, hf2⟩, kp⟩ := a41 F E L R hr hm hbl hal
            (repeat' first
    | refine w_seq ?_ | refine w_rg ?_ | refine wo_nil ?_ | refine g_skU ?_
    | ((first | apply s_plain | apply s_void | apply s_guard); · simp only [go_sem, Nat.reduceEqDiff, Nat.reduceAdd, Nat.reduceLeDiff, f0_0, f0_2, f0_3, h20, hm3, splice, fillP, fillE, List.modify_zero_cons, List.replicate_succ, List.replicate_zero, List.set_cons_zero, List.drop_zero, f6]; (first | done | rfl))
    | ((first | apply g_T | apply g_F); · intro hb; simp only [go_sem, Nat.reduceEqDiff, Nat.reduceAdd, Nat.reduceLeDiff, f0_0, f0_2, f0_3, h20, hm3, splice, fillP, fillE, List.modify_zero_cons, List.replicate_succ, List.replicate_zero, List.set_cons_zero, List.drop_zero, f6, hb]; (first | done | rfl))
    | ((first | apply g_gT | apply g_gF); · intro hb hc; simp only [go_sem, Nat.reduceEqDiff, Nat.reduceAdd, Nat.reduceLeDiff, f0_0, f0_2, f0_3, h20, hm3, splice, fillP, fillE, List.modify_zero_cons, List.replicate_succ, List.replicate_zero, List.set_cons_zero, List.drop_zero, f6, hb, hc]; (first | done | rfl))
    | refine g_skT ?_ | refine g_skF ?_
    | ((first | apply g_goT | apply g_goF); · simp only [go_sem, Nat.reduceEqDiff, Nat.reduceAdd, Nat.reduceLeDiff, f0_0, f0_2, f0_3, h20, hm3, splice, fillP, fillE, List.modify_zero_cons, List.replicate_succ, List.replicate_zero, List.set_cons_zero, List.drop_zero, f6]; (first | done | rfl))
    | (refine w_condT ?_ ?_; · simp only [go_sem, Nat.reduceEqDiff, Nat.reduceAdd, Nat.reduceLeDiff, f0_0, f0_2, f0_3, h20, hm3, splice, fillP, fillE, List.modify_zero_cons, List.replicate_succ, List.replicate_zero, List.set_cons_zero, List.drop_zero, f6]; (first | done | rfl))
    | (refine w_condF ?_ ?_; · simp only [go_sem, Nat.reduceEqDiff, Nat.reduceAdd, Nat.reduceLeDiff, f0_0, f0_2, f0_3, h20, hm3, splice, fillP, fillE, List.modify_zero_cons, List.replicate_succ, List.replicate_zero, List.set_cons_zero, List.drop_zero, f6]; (first | done | rfl))
    | refine w_skip ?_ | refine w_exit ?_ | refine w_ret ?_
    | fail
    )
            have hlt2 : 0 < σ1.c 2000002 := hr.1 2000002 0 (by rw [hm2]; rfl)
            have hlt3 : 0 < σ1.c 2000003 := hr.1 2000003 0 (by rw [hm3]; rfl)
            refine s_plain (v := .agg [p2, .sc (.bool o), .sc (.bool (stepD r a).isSome)]) (σ' := σ2) (by simp only [go_sem, Nat.reduceEqDiff, Nat.reduceAdd, Nat.reduceLeDiff, hm3, splice, fillP, fillE, List.modify_zero_cons, List.replicate_succ, List.replicate_zero, List.set_cons_zero, List.drop_zero]; exact hev) ?_
            have gm2 : σ2.m 2000002 0 = some ⟨3, [.agg [.em, .sc (.int .i64 0), .sc (.int .i64 0)]], true, true⟩ := by rw [kp.m _ _ (by decide) hlt2]; exact hm2
            have gm3 : σ2.m 2000003 0 = some ⟨3, [.agg [p, .sc (.bool r.now.isSome), .sc (.bool true)]], true, true⟩ := by rw [kp.m _ _ (by decide) hlt3]; exact hm3
            cases hst : stepD r a with
            | none =>
              have hfin : endD (linesD s).2 (runD ⟨[], none⟩ (linesD s).1 1) = ([], 250, (n : Int)) := by
                rw [he1, runD, hst]; rfl
              rw [hfin]
              (repeat' first
    | refine w_seq ?_ | refine w_rg ?_ | refine wo_nil ?_ | refine g_skU ?_
    | ((first | apply s_plain | apply s_void | apply s_guard); · simp only [go_sem, Nat.reduceEqDiff, Nat.reduceAdd, Nat.reduceLeDiff, f0_0, f0_2, f0_3, gm2, gm3, splice, fillP, fillE, List.modify_zero_cons, List.replicate_succ, List.replicate_zero, List.set_cons_zero, List.drop_zero, f4, Option.isSome_none, List.set_cons_succ]; (first | done | rfl))
    | ((first | apply g_T | apply g_F); · intro hb; simp only [go_sem, Nat.reduceEqDiff, Nat.reduceAdd, Nat.reduceLeDiff, f0_0, f0_2, f0_3, gm2, gm3, splice, fillP, fillE, List.modify_zero_cons, List.replicate_succ, List.replicate_zero, List.set_cons_zero, List.drop_zero, f4, Option.isSome_none, List.set_cons_succ, hb]; (first | done | rfl))
    | ((first | apply g_gT | apply g_gF); · intro hb hc; simp only [go_sem, Nat.reduceEqDiff, Nat.reduceAdd, Nat.reduceLeDiff, f0_0, f0_2, f0_3, gm2, gm3, splice, fillP, fillE, List.modify_zero_cons, List.replicate_succ, List.replicate_zero, List.set_cons_zero, List.drop_zero, f4, Option.isSome_none, List.set_cons_succ, hb, hc]; (first | done | rfl))
    | refine g_skT ?_ | refine g_skF ?_
    | ((first | apply g_goT | apply g_goF); · simp only [go_sem, Nat.reduceEqDiff, Nat.reduceAdd, Nat.reduceLeDiff, f0_0, f0_2, f0_3, gm2, gm3, splice, fillP, fillE, List.modify_zero_cons, List.replicate_succ, List.replicate_zero, List.set_cons_zero, List.drop_zero, f4, Option.isSome_none, List.set_cons_succ]; (first | done | rfl))
    | (refine w_condT ?_ ?_; · simp only [go_sem, Nat.reduceEqDiff, Nat.reduceAdd, Nat.reduceLeDiff, f0_0, f0_2, f0_3, gm2, gm3, splice, fillP, fillE, List.modify_zero_cons, List.replicate_succ, List.replicate_zero, List.set_cons_zero, List.drop_zero, f4, Option.isSome_none, List.set_cons_succ]; (first | done | rfl))
    | (refine w_condF ?_ ?_; · simp only [go_sem, Nat.reduceEqDiff, Nat.reduceAdd, Nat.reduceLeDiff, f0_0, f0_2, f0_3, gm2, gm3, splice, fillP, fillE, List.modify_zero_cons, List.replicate_succ, List.replicate_zero, List.set_cons_zero, List.drop_zero, f4, Option.isSome_none, List.set_cons_succ]; (first | done | rfl))
    | refine w_skip ?_ | refine w_exit ?_ | refine w_ret ?_
    | fail
    )
              exact ⟨by first | exact .inr rfl | exact .inr trivial | exact .inl rfl, by simp only [go_sem, Nat.reduceEqDiff, Nat.reduceAdd, Nat.reduceLeDiff, retOf, resOf, f0_0, f0_2, f0_3, dfs, List.map_nil, gm2, splice, fillP, fillE, List.modify_zero_cons, List.replicate_succ, List.replicate_zero, List.set_cons_zero, List.drop_zero]; first | done | rfl⟩
            | some r' =>
              obtain ⟨rfl, hr2⟩ := hnx r' hst
              have hm2' := (stepD_may hm hst).1
              rw [runD, hst] at he1
              simp only at he1
              (repeat' first
    | refine w_seq ?_ | refine w_rg ?_ | refine wo_nil ?_ | refine g_skU ?_
    | ((first | apply s_plain | apply s_void | apply s_guard); · simp only [go_sem, Nat.reduceEqDiff, Nat.reduceAdd, Nat.reduceLeDiff, f0_0, f0_2, f0_3, gm2, gm3, splice, fillP, fillE, List.modify_zero_cons, List.replicate_succ, List.replicate_zero, List.set_cons_zero, List.drop_zero, f4, f6, w1, w2, Option.isSome_some, List.set_cons_succ]; (first | done | rfl))
    | ((first | apply g_T | apply g_F); · intro hb; simp only [go_sem, Nat.reduceEqDiff, Nat.reduceAdd, Nat.reduceLeDiff, f0_0, f0_2, f0_3, gm2, gm3, splice, fillP, fillE, List.modify_zero_cons, List.replicate_succ, List.replicate_zero, List.set_cons_zero, List.drop_zero, f4, f6, w1, w2, Option.isSome_some, List.set_cons_succ, hb]; (first | done | rfl))
    | ((first | apply g_gT | apply g_gF); · intro hb hc; simp only [go_sem, Nat.reduceEqDiff, Nat.reduceAdd, Nat.reduceLeDiff, f0_0, f0_2, f0_3, gm2, gm3, splice, fillP, fillE, List.modify_zero_cons, List.replicate_succ, List.replicate_zero, List.set_cons_zero, List.drop_zero, f4, f6, w1, w2, Option.isSome_some, List.set_cons_succ, hb, hc]; (first | done | rfl))
    | refine g_skT ?_ | refine g_skF ?_
    | ((first | apply g_goT | apply g_goF); · simp only [go_sem, Nat.reduceEqDiff, Nat.reduceAdd, Nat.reduceLeDiff, f0_0, f0_2, f0_3, gm2, gm3, splice, fillP, fillE, List.modify_zero_cons, List.replicate_succ, List.replicate_zero, List.set_cons_zero, List.drop_zero, f4, f6, w1, w2, Option.isSome_some, List.set_cons_succ]; (first | done | rfl))
    | (refine w_condT ?_ ?_; · simp only [go_sem, Nat.reduceEqDiff, Nat.reduceAdd, Nat.reduceLeDiff, f0_0, f0_2, f0_3, gm2, gm3, splice, fillP, fillE, List.modify_zero_cons, List.replicate_succ, List.replicate_zero, List.set_cons_zero, List.drop_zero, f4, f6, w1, w2, Option.isSome_some, List.set_cons_succ]; (first | done | rfl))
    | (refine w_condF ?_ ?_; · simp only [go_sem, Nat.reduceEqDiff, Nat.reduceAdd, Nat.reduceLeDiff, f0_0, f0_2, f0_3, gm2, gm3, splice, fillP, fillE, List.modify_zero_cons, List.replicate_succ, List.replicate_zero, List.set_cons_zero, List.drop_zero, f4, f6, w1, w2, Option.isSome_some, List.set_cons_succ]; (first | done | rfl))
    | refine w_skip ?_ | refine w_exit ?_ | refine w_ret ?_
    | fail
    )
              refine ⟨s.length - (i + 1), by omega, i + 1, i + 1, p2, r', n + 1, rfl, by omega, by omega, by simp only [go_sem, Nat.reduceEqDiff, Nat.reduceAdd, Nat.reduceLeDiff], by simp only [go_sem, Nat.reduceEqDiff, Nat.reduceAdd, Nat.reduceLeDiff], by simp only [go_sem, Nat.reduceEqDiff, Nat.reduceAdd, Nat.reduceLeDiff], by simp only [go_sem, Nat.reduceEqDiff, Nat.reduceAdd, Nat.reduceLeDiff, gm2], by simp only [go_sem, Nat.reduceEqDiff, Nat.reduceAdd, Nat.reduceLeDiff], hr2.put (by decide) gm3 _, hm2', ?_, he1, he2, by omega⟩
              rw [List.drop_take]; simp
      · have hil : i = s.length := by omega
        subst hil
        have hd : decide ((s.length : Int) < (s.length : Int)) = false := by simp
        rw [List.take_length] at hno
        rw [linesD_no hno] at he1 he2
        simp only [runD] at he1 he2
        rw [he1, he2]
        obtain ⟨ok1, ok2⟩ := hr.ok
        have e0_0 := hfr 0 rfl; have e0_2 := hfr 2 rfl; have e0_3 := hfr 3 rfl; try (simp only [go_sem, Nat.reduceEqDiff, Nat.reduceAdd, Nat.reduceLeDiff] at e0_0); try (simp only [go_sem, Nat.reduceEqDiff, Nat.reduceAdd, Nat.reduceLeDiff] at e0_2); try (simp only [go_sem, Nat.reduceEqDiff, Nat.reduceAdd, Nat.reduceLeDiff] at e0_3)
        (repeat' first
    | refine w_seq ?_ | refine w_rg ?_ | refine wo_nil ?_ | refine g_skU ?_
    | ((first | apply s_plain | apply s_void | apply s_guard); · simp only [go_sem, Nat.reduceEqDiff, Nat.reduceAdd, Nat.reduceLeDiff, f0_0, f0_2, f0_3, f6, hd, ba_data, ba_size, ba_toList, ba_extract, ba_append, List.toList_toArray]; (first | done | rfl))
    | ((first | apply g_T | apply g_F); · intro hb; simp only [go_sem, Nat.reduceEqDiff, Nat.reduceAdd, Nat.reduceLeDiff, f0_0, f0_2, f0_3, f6, hd, ba_data, ba_size, ba_toList, ba_extract, ba_append, List.toList_toArray, hb]; (first | done | rfl))
    | ((first | apply g_gT | apply g_gF); · intro hb hc; simp only [go_sem, Nat.reduceEqDiff, Nat.reduceAdd, Nat.reduceLeDiff, f0_0, f0_2, f0_3, f6, hd, ba_data, ba_size, ba_toList, ba_extract, ba_append, List.toList_toArray, hb, hc]; (first | done | rfl))
    | refine g_skT ?_ | refine g_skF ?_
    | ((first | apply g_goT | apply g_goF); · simp only [go_sem, Nat.reduceEqDiff, Nat.reduceAdd, Nat.reduceLeDiff, f0_0, f0_2, f0_3, f6, hd, ba_data, ba_size, ba_toList, ba_extract, ba_append, List.toList_toArray]; (first | done | rfl))
    | (refine w_condT ?_ ?_; · simp only [go_sem, Nat.reduceEqDiff, Nat.reduceAdd, Nat.reduceLeDiff, f0_0, f0_2, f0_3, f6, hd, ba_data, ba_size, ba_toList, ba_extract, ba_append, List.toList_toArray]; (first | done | rfl))
    | (refine w_condF ?_ ?_; · simp only [go_sem, Nat.reduceEqDiff, Nat.reduceAdd, Nat.reduceLeDiff, f0_0, f0_2, f0_3, f6, hd, ba_data, ba_size, ba_toList, ba_extract, ba_append, List.toList_toArray]; (first | done | rfl))
    | refine w_skip ?_ | refine w_exit ?_ | refine w_ret ?_
    | fail
    )
        try simp only [if_true]
        by_cases hfl : from_ < s.length
        · have hd2 : decide ((from_ : Int) < (s.length : Int)) = true := by simp; omega
          have hne : s.drop from_ ≠ [] := by
            intro h
            have := congrArg List.length h
            simp at this; omega
          (repeat' first
    | refine w_seq ?_ | refine w_rg ?_ | refine wo_nil ?_ | refine g_skU ?_
    | ((first | apply s_plain | apply s_void | apply s_guard); · simp only [go_sem, Nat.reduceEqDiff, Nat.reduceAdd, Nat.reduceLeDiff, e0_0, e0_2, e0_3, f5, f4, hm2, hm3, hd2, ba_data, ba_size, ba_toList, ba_extract, ba_append, List.toList_toArray, splice, fillP, fillE, List.modify_zero_cons, List.replicate_succ, List.replicate_zero, List.set_cons_zero, List.drop_zero, List.set_cons_succ]; (first | done | rfl))
    | ((first | apply g_T | apply g_F); · intro hb; simp only [go_sem, Nat.reduceEqDiff, Nat.reduceAdd, Nat.reduceLeDiff, e0_0, e0_2, e0_3, f5, f4, hm2, hm3, hd2, ba_data, ba_size, ba_toList, ba_extract, ba_append, List.toList_toArray, splice, fillP, fillE, List.modify_zero_cons, List.replicate_succ, List.replicate_zero, List.set_cons_zero, List.drop_zero, List.set_cons_succ, hb]; (first | done | rfl))
    | ((first | apply g_gT | apply g_gF); · intro hb hc; simp only [go_sem, Nat.reduceEqDiff, Nat.reduceAdd, Nat.reduceLeDiff, e0_0, e0_2, e0_3, f5, f4, hm2, hm3, hd2, ba_data, ba_size, ba_toList, ba_extract, ba_append, List.toList_toArray, splice, fillP, fillE, List.modify_zero_cons, List.replicate_succ, List.replicate_zero, List.set_cons_zero, List.drop_zero, List.set_cons_succ, hb, hc]; (first | done | rfl))
    | refine g_skT ?_ | refine g_skF ?_
    | ((first | apply g_goT | apply g_goF); · simp only [go_sem, Nat.reduceEqDiff, Nat.reduceAdd, Nat.reduceLeDiff, e0_0, e0_2, e0_3, f5, f4, hm2, hm3, hd2, ba_data, ba_size, ba_toList, ba_extract, ba_append, List.toList_toArray, splice, fillP, fillE, List.modify_zero_cons, List.replicate_succ, List.replicate_zero, List.set_cons_zero, List.drop_zero, List.set_cons_succ]; (first | done | rfl))
    | (refine w_condT ?_ ?_; · simp only [go_sem, Nat.reduceEqDiff, Nat.reduceAdd, Nat.reduceLeDiff, e0_0, e0_2, e0_3, f5, f4, hm2, hm3, hd2, ba_data, ba_size, ba_toList, ba_extract, ba_append, List.toList_toArray, splice, fillP, fillE, List.modify_zero_cons, List.replicate_succ, List.replicate_zero, List.set_cons_zero, List.drop_zero, List.set_cons_succ]; (first | done | rfl))
    | (refine w_condF ?_ ?_; · simp only [go_sem, Nat.reduceEqDiff, Nat.reduceAdd, Nat.reduceLeDiff, e0_0, e0_2, e0_3, f5, f4, hm2, hm3, hd2, ba_data, ba_size, ba_toList, ba_extract, ba_append, List.toList_toArray, splice, fillP, fillE, List.modify_zero_cons, List.replicate_succ, List.replicate_zero, List.set_cons_zero, List.drop_zero, List.set_cons_succ]; (first | done | rfl))
    | refine w_skip ?_ | refine w_exit ?_ | refine w_ret ?_
    | fail
    )
          exact ⟨by first | exact .inr rfl | exact .inr trivial | exact .inl rfl, by simp only [go_sem, Nat.reduceEqDiff, Nat.reduceAdd, Nat.reduceLeDiff, retOf, resOf, e0_0, e0_2, e0_3, endD, hne, false_and, if_false, dfs, List.map_nil, splice, fillP, fillE, List.modify_zero_cons, List.replicate_succ, List.replicate_zero, List.set_cons_zero, List.drop_zero]; first | done | rfl⟩
        · have hd2 : decide ((from_ : Int) < (s.length : Int)) = false := by simp; omega
          have hne : s.drop from_ = [] := List.drop_eq_nil_of_le (by omega)
          cases hnow : r.now with
          | none =>
            rw [hnow] at hm3
            (repeat' first
    | refine w_seq ?_ | refine w_rg ?_ | refine wo_nil ?_ | refine g_skU ?_
    | ((first | apply s_plain | apply s_void | apply s_guard); · simp only [go_sem, Nat.reduceEqDiff, Nat.reduceAdd, Nat.reduceLeDiff, e0_0, e0_2, e0_3, f5, f4, hm2, hm3, hd2, ba_data, ba_size, ba_toList, ba_extract, ba_append, List.toList_toArray, splice, fillP, fillE, List.modify_zero_cons, List.replicate_succ, List.replicate_zero, List.set_cons_zero, List.drop_zero, Option.isSome_none, ok1, ok2]; (first | done | rfl))
    | ((first | apply g_T | apply g_F); · intro hb; simp only [go_sem, Nat.reduceEqDiff, Nat.reduceAdd, Nat.reduceLeDiff, e0_0, e0_2, e0_3, f5, f4, hm2, hm3, hd2, ba_data, ba_size, ba_toList, ba_extract, ba_append, List.toList_toArray, splice, fillP, fillE, List.modify_zero_cons, List.replicate_succ, List.replicate_zero, List.set_cons_zero, List.drop_zero, Option.isSome_none, ok1, ok2, hb]; (first | done | rfl))
    | ((first | apply g_gT | apply g_gF); · intro hb hc; simp only [go_sem, Nat.reduceEqDiff, Nat.reduceAdd, Nat.reduceLeDiff, e0_0, e0_2, e0_3, f5, f4, hm2, hm3, hd2, ba_data, ba_size, ba_toList, ba_extract, ba_append, List.toList_toArray, splice, fillP, fillE, List.modify_zero_cons, List.replicate_succ, List.replicate_zero, List.set_cons_zero, List.drop_zero, Option.isSome_none, ok1, ok2, hb, hc]; (first | done | rfl))
    | refine g_skT ?_ | refine g_skF ?_
    | ((first | apply g_goT | apply g_goF); · simp only [go_sem, Nat.reduceEqDiff, Nat.reduceAdd, Nat.reduceLeDiff, e0_0, e0_2, e0_3, f5, f4, hm2, hm3, hd2, ba_data, ba_size, ba_toList, ba_extract, ba_append, List.toList_toArray, splice, fillP, fillE, List.modify_zero_cons, List.replicate_succ, List.replicate_zero, List.set_cons_zero, List.drop_zero, Option.isSome_none, ok1, ok2]; (first | done | rfl))
    | (refine w_condT ?_ ?_; · simp only [go_sem, Nat.reduceEqDiff, Nat.reduceAdd, Nat.reduceLeDiff, e0_0, e0_2, e0_3, f5, f4, hm2, hm3, hd2, ba_data, ba_size, ba_toList, ba_extract, ba_append, List.toList_toArray, splice, fillP, fillE, List.modify_zero_cons, List.replicate_succ, List.replicate_zero, List.set_cons_zero, List.drop_zero, Option.isSome_none, ok1, ok2]; (first | done | rfl))
    | (refine w_condF ?_ ?_; · simp only [go_sem, Nat.reduceEqDiff, Nat.reduceAdd, Nat.reduceLeDiff, e0_0, e0_2, e0_3, f5, f4, hm2, hm3, hd2, ba_data, ba_size, ba_toList, ba_extract, ba_append, List.toList_toArray, splice, fillP, fillE, List.modify_zero_cons, List.replicate_succ, List.replicate_zero, List.set_cons_zero, List.drop_zero, Option.isSome_none, ok1, ok2]; (first | done | rfl))
    | refine w_skip ?_ | refine w_exit ?_ | refine w_ret ?_
    | fail
    )
            obtain ⟨hf, ys, hyl, hyr, hg⟩ := hr
            rw [hnow] at hg
            have h5 : ∀ y, fz (σ1.put 2000002 0 y) 11 p = some (.sl (dfs r.all)) := fun y => rdP_fz_le (P := fun o => P41 o || o == 31) (d := 4) (by decide) (gat_rdP (hg.put (by decide) _) (by simp) (mapM_imp (fun a b h => by
              have h6 := rdP_sub ((SubP.refl σ1).put (o := 2000002) (g := 0) rfl y) 3 a b h
              revert h6
              generalize σ1.put 2000002 0 y = τ
              intro h6
              exact rdP_more (P := P41) (by intro o ho; simp [ho]) _ _ _ h6) hyr))
            exact ⟨by first | exact .inr rfl | exact .inr trivial | exact .inl rfl, by simp only [go_sem, Nat.reduceEqDiff, Nat.reduceAdd, Nat.reduceLeDiff, retOf, resOf, e0_0, e0_2, e0_3, hne, endD, hnow, and_self, if_true, splice, fillP, fillE, List.modify_zero_cons, List.replicate_succ, List.replicate_zero, List.set_cons_zero, List.drop_zero, h5, ok1, ok2]; first | done | rfl⟩
          | some d =>
            rw [hnow] at hm3
            (repeat' first
    | refine w_seq ?_ | refine w_rg ?_ | refine wo_nil ?_ | refine g_skU ?_
    | ((first | apply s_plain | apply s_void | apply s_guard); · simp only [go_sem, Nat.reduceEqDiff, Nat.reduceAdd, Nat.reduceLeDiff, e0_0, e0_2, e0_3, f5, f4, hm2, hm3, hd2, ba_data, ba_size, ba_toList, ba_extract, ba_append, List.toList_toArray, splice, fillP, fillE, List.modify_zero_cons, List.replicate_succ, List.replicate_zero, List.set_cons_zero, List.drop_zero, Option.isSome_some, List.set_cons_succ]; (first | done | rfl))
    | ((first | apply g_T | apply g_F); · intro hb; simp only [go_sem, Nat.reduceEqDiff, Nat.reduceAdd, Nat.reduceLeDiff, e0_0, e0_2, e0_3, f5, f4, hm2, hm3, hd2, ba_data, ba_size, ba_toList, ba_extract, ba_append, List.toList_toArray, splice, fillP, fillE, List.modify_zero_cons, List.replicate_succ, List.replicate_zero, List.set_cons_zero, List.drop_zero, Option.isSome_some, List.set_cons_succ, hb]; (first | done | rfl))
    | ((first | apply g_gT | apply g_gF); · intro hb hc; simp only [go_sem, Nat.reduceEqDiff, Nat.reduceAdd, Nat.reduceLeDiff, e0_0, e0_2, e0_3, f5, f4, hm2, hm3, hd2, ba_data, ba_size, ba_toList, ba_extract, ba_append, List.toList_toArray, splice, fillP, fillE, List.modify_zero_cons, List.replicate_succ, List.replicate_zero, List.set_cons_zero, List.drop_zero, Option.isSome_some, List.set_cons_succ, hb, hc]; (first | done | rfl))
    | refine g_skT ?_ | refine g_skF ?_
    | ((first | apply g_goT | apply g_goF); · simp only [go_sem, Nat.reduceEqDiff, Nat.reduceAdd, Nat.reduceLeDiff, e0_0, e0_2, e0_3, f5, f4, hm2, hm3, hd2, ba_data, ba_size, ba_toList, ba_extract, ba_append, List.toList_toArray, splice, fillP, fillE, List.modify_zero_cons, List.replicate_succ, List.replicate_zero, List.set_cons_zero, List.drop_zero, Option.isSome_some, List.set_cons_succ]; (first | done | rfl))
    | (refine w_condT ?_ ?_; · simp only [go_sem, Nat.reduceEqDiff, Nat.reduceAdd, Nat.reduceLeDiff, e0_0, e0_2, e0_3, f5, f4, hm2, hm3, hd2, ba_data, ba_size, ba_toList, ba_extract, ba_append, List.toList_toArray, splice, fillP, fillE, List.modify_zero_cons, List.replicate_succ, List.replicate_zero, List.set_cons_zero, List.drop_zero, Option.isSome_some, List.set_cons_succ]; (first | done | rfl))
    | (refine w_condF ?_ ?_; · simp only [go_sem, Nat.reduceEqDiff, Nat.reduceAdd, Nat.reduceLeDiff, e0_0, e0_2, e0_3, f5, f4, hm2, hm3, hd2, ba_data, ba_size, ba_toList, ba_extract, ba_append, List.toList_toArray, splice, fillP, fillE, List.modify_zero_cons, List.replicate_succ, List.replicate_zero, List.set_cons_zero, List.drop_zero, Option.isSome_some, List.set_cons_succ]; (first | done | rfl))
    | refine w_skip ?_ | refine w_exit ?_ | refine w_ret ?_
    | fail
    )
            exact ⟨by first | exact .inr rfl | exact .inr trivial | exact .inl rfl, by simp only [go_sem, Nat.reduceEqDiff, Nat.reduceAdd, Nat.reduceLeDiff, retOf, resOf, e0_0, e0_2, e0_3, hne, endD, hnow, reduceCtorEq, and_false, if_false, dfs, List.map_nil, splice, fillP, fillE, List.modify_zero_cons, List.replicate_succ, List.replicate_zero, List.set_cons_zero, List.drop_zero]; first | done | rfl⟩
    · refine ⟨0, 0, .em, ⟨[], none⟩, 1, by omega, by omega, by omega, (by simp only [go_sem, Nat.reduceEqDiff, Nat.reduceAdd, Nat.reduceLeDiff]; first | done | rfl), (by simp only [go_sem, Nat.reduceEqDiff, Nat.reduceAdd, Nat.reduceLeDiff]; first | done | rfl), (by simp only [go_sem, Nat.reduceEqDiff, Nat.reduceAdd, Nat.reduceLeDiff]; first | done | rfl), rfl, rfl, ?_, may0, by simp, by rw [List.drop_zero], by rw [List.drop_zero], by omega⟩
      refine ⟨?_, [], rfl, rfl, .em⟩
      exact ((Fresh.nil.new _ _).new _ _).put (x := ⟨3, [.agg [.em, .sc (.bool false), .sc (.bool false)]], true, true⟩) rfl _
theorem u8_cutN (l : List UInt8) (n : Nat) (fr : Fr) (t : Nat) (h : fr t = .sc (.int .i64 (min (l.length : Int) (n : Int)))) : slcSP fr (txt l) none (some (.t t)) = some (txt (l.take n)) := by
  have hb : bound l.length (.sc (.int .i64 (min (l.length : Int) (n : Int)))) = some (min l.length n) := bound_min rfl
  simp only [slcSP, txt, hiOf, pa, h, ba_size, hb, Option.bind_some, loOf, ba_extract, List.drop_zero]
  congr 4
  by_cases hh : l.length ≤ n
  · rw [Nat.min_eq_left hh, List.take_length, List.take_of_length_le hh]
  · rw [Nat.min_eq_right (by omega)]
theorem parseD_sms (s : List UInt8) : Sms (parseD s).1 := by
  by_cases h : (parseD s).2.1 = 0
  · obtain ⟨_, h2, _, h4, h5, _⟩ := parseD_ok (s := s) (l := (parseD s).1) (at_ := (parseD s).2.2) (by rw [← h])
    obtain ⟨h6, h7⟩ := rightD_may h4
    refine ⟨by omega, fun d hd => ?_⟩
    have m := h7 d hd
    have hw := wordD_le m.ty
    refine ⟨?_, ⟨?_, ?_⟩, ⟨?_, ?_⟩⟩
    · show d.ty.length ≤ _; omega
    · have := m.n; omega
    · intro k hk
      obtain ⟨i, hi⟩ := List.getElem?_of_mem hk
      have hi2 := (List.getElem?_eq_some_iff.1 hi).1
      have := wordD_le (m.ks i hi2).1
      rw [List.getD_eq_getElem?_getD, hi] at this
      show k.length ≤ _
      simp at this; omega
    · have := m.n; have := m.e; omega
    · intro v hv
      have := valD_le (m.vs v hv)
      show v.length ≤ _; omega
  · obtain ⟨h1, _⟩ := parseD_err h
    rw [h1]
    exact ⟨by simp, fun d hd => by simp at hd⟩
end
end Go.Proofs.YtdlfomiclkpibaaDoorPv
namespace Go.Proofs.YtdlfomiclkpibaaDoorPv
open Go
set_option linter.unusedSimpArgs false
set_option linter.unusedVariables false
/-! ### behind other blocks -/
def Rs.n (r : Rs) : Nat := r.all.length + r.now.toList.length
def Rs.pre (P : List Df) (r : Rs) : Rs := ⟨P ++ r.all, r.now⟩
theorem stepD_n {r r' : Rs} {s : List UInt8} (h : stepD r s = some r') : r.n ≤ r'.n := by
  unfold stepD at h
  split at h
  · simp only [Option.some.injEq] at h; rw [h]; exact Nat.le_refl _
  · split at h
    · rename_i hn
      unfold outD at h
      split at h
      · simp only [Option.some.injEq] at h
        rw [← h]; simp [Rs.n, hn]
      · cases h
    · rename_i d hn
      unfold inD at h
      split at h
      · simp only [Option.some.injEq] at h; rw [← h]; simp [Rs.n, hn]
      · split at h
        · simp only [Option.some.injEq] at h; rw [← h]; simp [Rs.n, hn]
        · cases h
theorem runD_n : ∀ (l : List (List UInt8)) (r r' : Rs) (n k : Nat), runD r l n = .inr (r', k) → r.n ≤ r'.n
  | [], r, r', n, k, h => by simp only [runD, Sum.inr.injEq, Prod.mk.injEq] at h; rw [h.1]; exact Nat.le_refl _
  | s :: l, r, r', n, k, h => by
    rw [runD] at h
    split at h
    · cases h
    · rename_i q hq
      exact Nat.le_trans (stepD_n hq) (runD_n l q r' (n + 1) k h)
theorem stepD_pre {P : List Df} {r r' : Rs} {s : List UInt8} (hP : P.length + r.n ≤ 64) (h : stepD r s = some r') : stepD (r.pre P) s = if P.length + r'.n ≤ 64 then some (r'.pre P) else none := by
  unfold stepD at h ⊢
  split at h
  · rename_i hb
    rw [if_pos hb]
    simp only [Option.some.injEq] at h; subst h
    rw [if_pos hP]
  · rename_i hb
    rw [if_neg hb]
    obtain ⟨all, now⟩ := r
    cases now with
    | none =>
      simp only [Rs.pre, Rs.n, outD, Option.toList_none, List.length_nil, Nat.add_zero] at h hP ⊢
      split at h
      · rename_i hc
        simp only [Option.some.injEq] at h
        subst h
        simp only [List.length_append, Option.toList_some, List.length_nil, List.length_cons]
        by_cases h64 : P.length + all.length < 64
        · rw [if_pos ⟨hc.1, h64⟩]; exact (if_pos (by omega)).symm
        · rw [if_neg (fun h => h64 h.2)]; exact (if_neg (by omega)).symm
      · cases h
    | some d =>
      simp only [Rs.pre, Rs.n, inD, Option.toList_some, List.length_cons, List.length_nil] at h hP ⊢
      split at h
      · rename_i hc
        simp only [Option.some.injEq] at h
        subst h
        rw [if_pos hc]
        refine Eq.trans ?_ (if_pos (by simp; omega)).symm
        simp
      · rename_i hc
        rw [if_neg hc]
        split at h
        · rename_i hc2
          simp only [Option.some.injEq] at h
          subst h
          rw [if_pos hc2]
          exact (if_pos (by simp; omega)).symm
        · cases h
theorem runD_pre {P : List Df} : ∀ (l : List (List UInt8)) (r r' : Rs) (n n' k : Nat), P.length + r.n ≤ 64 → runD r l n = .inr (r', k) →
    if P.length + r'.n ≤ 64 then ∃ j, runD (r.pre P) l n' = .inr (r'.pre P, j) else ∃ j, runD (r.pre P) l n' = .inl j
  | [], r, r', n, n', k, hP, h => by
    simp only [runD, Sum.inr.injEq, Prod.mk.injEq] at h
    obtain ⟨rfl, _⟩ := h
    rw [if_pos hP]
    exact ⟨n', rfl⟩
  | s :: l, r, r', n, n', k, hP, h => by
    rw [runD] at h
    split at h
    · cases h
    · rename_i q hq
      have h1 := stepD_pre hP hq
      by_cases hq64 : P.length + q.n ≤ 64
      · rw [if_pos hq64] at h1
        have ih := runD_pre l q r' (n + 1) (n' + 1) k hq64 h
        rw [runD, h1]
        exact ih
      · rw [if_neg hq64] at h1
        have := runD_n l q r' (n + 1) k h
        rw [if_neg (by omega)]
        exact ⟨n', by rw [runD, h1]⟩
theorem parseD_app {s t : List UInt8} {l m : List Df} {i j : Int} (hs : parseD s = (l, 0, i)) (ht : parseD t = (m, 0, j)) (hl : (s ++ t).length ≤ 8192) :
    if l.length + m.length ≤ 64 then parseD (s ++ t) = (l ++ m, 0, 0) else (parseD (s ++ t)).2.1 = 250 := by
  obtain ⟨_, _, h3, h4, _, k, h6⟩ := parseD_ok hs
  obtain ⟨_, _, g3, _, _, k', g6⟩ := parseD_ok ht
  obtain ⟨hl64, _⟩ := rightD_may h4
  have e : parseD (s ++ t) = endD (linesD t).2 (runD ⟨l, none⟩ (linesD t).1 k) := by
    unfold parseD
    rw [if_neg (by omega), linesD_app h3, runD_app, h6]
  have hp := runD_pre (P := l) _ _ _ _ k _ (by simp [Rs.n]; omega) g6
  simp only [Rs.pre, List.append_nil, Rs.n, Option.toList_none, List.length_nil, Nat.add_zero] at hp
  rw [e]
  split at hp
  · rename_i hc
    rw [if_pos hc]
    obtain ⟨j, hj⟩ := hp
    rw [hj]
    simp only [endD]
    rw [if_pos ⟨g3, trivial⟩]
  · rename_i hc
    rw [if_neg hc]
    obtain ⟨j, hj⟩ := hp
    rw [hj]
    rfl
/-! ### what is printed is read -/
def keyRow (d : Df) (i : Nat) : List UInt8 := [9] ++ d.ks.getD i [] ++ [9] ++ d.vs.getD i []
def headRow (d : Df) : List UInt8 := begP ++ d.ty ++ begS
def rowsB (d : Df) : List (List UInt8) := headRow d :: (List.range' 0 d.ks.length).map (keyRow d) ++ [[125]]
theorem blockD_unl (d : Df) : blockD d = unl (rowsB d) := by
  unfold blockD rowsB unl headD headRow rowsD
  rw [List.range_eq_range']
  simp only [List.flatMap_append, List.flatMap_cons, List.flatMap_nil, List.flatMap_map, begP, begS, List.append_assoc, List.append_nil, List.cons_append, List.nil_append]
  have e : (fun i => rowD d i) = fun i => keyRow d i ++ [10] := by
    funext i; simp [rowD, keyRow]
  rw [show rowD d = fun i => keyRow d i ++ [10] from e]
theorem textD_unl (l : List Df) : textD l = unl (l.flatMap rowsB) := by
  induction l with
  | nil => rfl
  | cons d r ih =>
    simp only [textD, List.flatMap_cons, unl, List.flatMap_append] at ih ⊢
    rw [ih, blockD_unl]
    rfl
theorem word_all {l : List UInt8} (h : wordD l = true) : ∀ c ∈ l, 48 ≤ c.toNat := by
  intro c hc
  unfold wordD at h
  simp only [Bool.and_eq_true, List.all_eq_true] at h
  have := h.2 c hc
  unfold wordC at this
  simp at this
  omega
theorem val_all {l : List UInt8} (h : valD l = true) : ∀ c ∈ l, 32 ≤ c.toNat := by
  intro c hc
  unfold valD at h
  simp only [Bool.and_eq_true, List.all_eq_true] at h
  have := h.2 c hc
  unfold valC at this
  simp at this
  omega
theorem word_no {l : List UInt8} (h : wordD l = true) {c : UInt8} (hc : c.toNat < 48) : c ∉ l := fun hm => by
  have := word_all h c hm; omega
theorem val_no {l : List UInt8} (h : valD l = true) {c : UInt8} (hc : c.toNat < 32) : c ∉ l := fun hm => by
  have := val_all h c hm; omega
theorem Df.May.key {d : Df} (h : d.May) {i : Nat} (hi : i < d.ks.length) : wordD (d.ks.getD i []) = true := (h.ks i hi).1
theorem rowsB_no {d : Df} (h : d.May) : ∀ r ∈ rowsB d, (10 : UInt8) ∉ r := by
  intro r hr
  unfold rowsB at hr
  simp only [List.cons_append, List.mem_cons, List.mem_append, List.mem_map, List.mem_range'_1, List.not_mem_nil, or_false] at hr
  rcases hr with rfl | ⟨i, hi, rfl⟩ | rfl
  · have := word_no h.ty (c := 10) (by decide)
    simp [headRow, begP, begS, this]
  · have h1 := word_no (h.key (i := i) (by omega)) (c := 10) (by decide)
    have h2 := val_no (h.val (i := i) (by omega)) (c := 10) (by decide)
    simp only [keyRow, List.mem_append, List.mem_singleton, not_or]
    exact ⟨⟨⟨by decide, h1⟩, by decide⟩, h2⟩
  · decide
theorem cutPre_app (t r : List UInt8) : cutPre (t ++ r) t = r := by
  unfold cutPre
  rw [if_pos (by rw [List.isPrefixOf_iff_prefix]; exact List.prefix_append _ _)]
  simp
theorem beg_head {d : Df} (h : d.May) : blankD (headRow d) = false ∧ begOk (headRow d) = true ∧ begK (headRow d) = d.ty := by
  have e1 : cutPre (headRow d) begP = d.ty ++ begS := by unfold headRow; rw [List.append_assoc, cutPre_app]
  have e2 : begS.isSuffixOf (d.ty ++ begS) = true := by rw [List.isSuffixOf_iff_suffix]; exact List.suffix_append _ _
  have e3 : begK (headRow d) = d.ty := by
    unfold begK cutSuf
    rw [e1, if_pos e2]; simp
  refine ⟨by simp [headRow, begP, blankD, List.dropWhile, spB], ?_, e3⟩
  unfold begOk
  rw [e1, e2, e3, h.ty]
  have : begP.isPrefixOf (headRow d) = true := by
    rw [List.isPrefixOf_iff_prefix]; unfold headRow; rw [List.append_assoc]; exact List.prefix_append _ _
  rw [this]; rfl
theorem dropW_cons {p : UInt8 → Bool} {c : UInt8} {l : List UInt8} (h : p c = true) : (c :: l).dropWhile p = l.dropWhile p := by rw [List.dropWhile_cons, if_pos h]
theorem dropW_stop {p : UInt8 → Bool} {c : UInt8} {l : List UInt8} (h : p c = false) : (c :: l).dropWhile p = c :: l := by rw [List.dropWhile_cons, if_neg (by rw [h]; simp)]
theorem key_row {d : Df} (h : d.May) {i : Nat} (hi : i < d.ks.length) : blankD (keyRow d i) = false ∧ keyOk (keyRow d i) = true ∧ keyK (keyRow d i) = d.ks.getD i [] ∧ keyV (keyRow d i) = d.vs.getD i [] ∧ keyRow d i ≠ [125] := by
  have hk := h.key hi
  have hv := h.val hi
  unfold keyRow
  generalize d.ks.getD i [] = k at hk
  generalize d.vs.getD i [] = v at hv
  have h9 := word_no hk (c := 9) (by decide)
  have e1 : cutPre ([9] ++ k ++ [9] ++ v) [9] = k ++ 9 :: v := by
    rw [show [9] ++ k ++ [9] ++ v = [9] ++ (k ++ 9 :: v) by simp, cutPre_app]
  have e2 : Lib.cut (cutPre ([9] ++ k ++ [9] ++ v) [9]) [9] = (k, v, true) := by rw [e1, cut1_at h9]
  have ek : keyK ([9] ++ k ++ [9] ++ v) = k := by unfold keyK; rw [e2]
  have ev : keyV ([9] ++ k ++ [9] ++ v) = v := by unfold keyV; rw [e2]
  refine ⟨?_, ?_, ek, ev, by simp⟩
  · obtain ⟨c, r, rfl⟩ : ∃ c r, k = c :: r := by
      cases k with
      | nil => cases hk
      | cons c r => exact ⟨c, r, rfl⟩
    have hc := word_all hk c List.mem_cons_self
    have hs : spB c = false := by
      unfold spB
      simp only [Bool.or_eq_false_iff, beq_eq_false_iff_ne]
      constructor <;> (rintro rfl; simp at hc)
    unfold blankD
    rw [show [9] ++ (c :: r) ++ [9] ++ v = 9 :: c :: (r ++ [9] ++ v) by simp, dropW_cons (by decide), dropW_stop hs]
    simp only [Bool.or_eq_false_iff, beq_eq_false_iff_ne]
    constructor
    · rintro rfl; simp at hc
    · rintro rfl
      unfold wordD at hk
      simp only [Bool.and_eq_true, List.all_cons] at hk
      exact absurd hk.2.1 (by decide)
  · unfold keyOk
    rw [e2, ek, ev, hk, hv]
    simp [List.isPrefixOf]
theorem run_keys {d : Df} (h : d.May) {A : List Df} : ∀ (k i n : Nat), i + k = d.ks.length →
    runD ⟨A, some ⟨d.ty, d.ks.take i, d.vs.take i⟩⟩ ((List.range' i k).map (keyRow d)) n = .inr (⟨A, some d⟩, n + k)
  | 0, i, n, hi => by
    have hi : i = d.ks.length := by omega
    subst hi
    have e2 : d.vs.take d.ks.length = d.vs := by rw [h.e, List.take_length]
    simp only [List.range'_zero, List.map_nil, runD, List.take_length, e2, Nat.add_zero]
  | k + 1, i, n, hi => by
    have hlt : i < d.ks.length := by omega
    have hlv : i < d.vs.length := by rw [← h.e]; exact hlt
    obtain ⟨h1, h2, h3, h4, h5⟩ := key_row h hlt
    have gk : d.ks.take (i + 1) = d.ks.take i ++ [d.ks.getD i []] := by
      rw [List.getD_eq_getElem?_getD, List.getElem?_eq_getElem hlt, ← List.take_append_getElem hlt]; rfl
    have gv : d.vs.take (i + 1) = d.vs.take i ++ [d.vs.getD i []] := by
      rw [List.getD_eq_getElem?_getD, List.getElem?_eq_getElem hlv, ← List.take_append_getElem hlv]; rfl
    rw [List.range'_succ, List.map_cons, runD]
    have hst : stepD ⟨A, some ⟨d.ty, d.ks.take i, d.vs.take i⟩⟩ (keyRow d i) = some ⟨A, some ⟨d.ty, d.ks.take (i + 1), d.vs.take (i + 1)⟩⟩ := by
      unfold stepD
      rw [h1]
      simp only [Bool.false_eq_true, if_false, inD]
      rw [if_neg h5, h3, h4, if_pos ⟨h2, (h.ks i hlt).2, by rw [List.length_take]; have := h.n; omega⟩, gk, gv]
    rw [hst]
    simp only
    rw [run_keys h k (i + 1) (n + 1) (by omega)]
    congr 2
    omega
theorem run_block {d : Df} (h : d.May) {A : List Df} (hA : A.length < 64) (n : Nat) : ∃ j, runD ⟨A, none⟩ (rowsB d) n = .inr (⟨A ++ [d], none⟩, j) := by
  obtain ⟨h1, h2, h3⟩ := beg_head h
  unfold rowsB
  rw [List.cons_append, runD]
  have hst : stepD ⟨A, none⟩ (headRow d) = some ⟨A, some ⟨d.ty, [], []⟩⟩ := by
    unfold stepD
    rw [h1]
    simp only [Bool.false_eq_true, if_false, outD]
    rw [if_pos ⟨h2, hA⟩, h3]
  rw [hst]
  simp only
  rw [runD_app, show (⟨A, some ⟨d.ty, [], []⟩⟩ : Rs) = ⟨A, some ⟨d.ty, d.ks.take 0, d.vs.take 0⟩⟩ by simp, run_keys h d.ks.length 0 (n + 1) (by omega)]
  simp only
  refine ⟨n + 1 + d.ks.length + 1, ?_⟩
  rw [runD]
  have hst2 : stepD ⟨A, some d⟩ [125] = some ⟨A ++ [d], none⟩ := by
    unfold stepD
    rw [show blankD [125] = false by decide]
    simp only [Bool.false_eq_true, if_false, inD]
    rw [if_pos trivial]
  rw [hst2]
  rfl
theorem run_blocks : ∀ (l A : List Df) (n : Nat), (∀ d ∈ l, d.May) → A.length + l.length ≤ 64 → ∃ j, runD ⟨A, none⟩ (l.flatMap rowsB) n = .inr (⟨A ++ l, none⟩, j)
  | [], A, n, _, _ => ⟨n, by simp [runD]⟩
  | d :: l, A, n, h, hl => by
    simp only [List.length_cons] at hl
    obtain ⟨j, hj⟩ := run_block (h d List.mem_cons_self) (A := A) (by omega) n
    obtain ⟨k, hk⟩ := run_blocks l (A ++ [d]) j (fun x hx => h x (List.mem_cons_of_mem _ hx)) (by simp; omega)
    refine ⟨k, ?_⟩
    rw [List.flatMap_cons, runD_app, hj]
    simp only
    rw [hk]
    simp
theorem parse_print {l : List Df} (h : rightD l = true) (hl : (textD l).length ≤ 8192) : parseD (textD l) = (l, 0, 0) := by
  obtain ⟨h64, hm⟩ := rightD_may h
  have hno : ∀ r ∈ l.flatMap rowsB, (10 : UInt8) ∉ r := by
    intro r hr
    obtain ⟨d, hd, hr⟩ := List.mem_flatMap.1 hr
    exact rowsB_no (hm d hd) r hr
  obtain ⟨j, hj⟩ := run_blocks l [] 1 hm (by simpa using h64)
  unfold parseD
  rw [if_neg (by omega), textD_unl, linesD_rows hno, hj]
  simp [endD]
theorem print_inj {l m : List Df} (hl : rightD l = true) (hm : rightD m = true) (h1 : (textD l).length ≤ 8192) (h : textD l = textD m) : l = m := by
  have e1 := parse_print hl h1
  have e2 := parse_print hm (by rw [← h]; exact h1)
  rw [← h, e1] at e2
  simpa using e2
/-! ### what is read is printed -/
theorem unl_filter {rows : List (List UInt8)} (h : ∀ r ∈ rows, blankD r = false) : unl (rows.filter fun r => !blankD r) = unl rows := by
  rw [List.filter_eq_self.2 (fun r hr => by rw [h r hr]; rfl)]
theorem unl_lt {rows : List (List UInt8)} (h : ∃ r ∈ rows, blankD r = true) : (unl (rows.filter fun r => !blankD r)).length < (unl rows).length := by
  have hle : ∀ l : List (List UInt8), (unl (l.filter fun r => !blankD r)).length ≤ (unl l).length := fun l => by
    induction l with
    | nil => simp [unl]
    | cons x r ih =>
      rw [List.filter_cons]
      cases hb : blankD x <;> simp only [unl, Bool.not_false, Bool.not_true, Bool.false_eq_true, if_true, if_false, List.flatMap_cons, List.length_append] at ih ⊢ <;> omega
  obtain ⟨r, hr, hb⟩ := h
  induction rows with
  | nil => simp at hr
  | cons x l ih =>
    rw [List.filter_cons]
    rcases List.mem_cons.1 hr with rfl | hr
    · rw [hb]
      have := hle l
      simp only [unl, Bool.not_true, Bool.false_eq_true, if_false, List.flatMap_cons, List.length_append, List.length_cons] at this ⊢
      omega
    · have := ih hr
      cases hx : blankD x <;> simp only [unl, Bool.not_false, Bool.not_true, Bool.false_eq_true, if_true, if_false, List.flatMap_cons, List.length_append] at this ⊢ <;> omega
/-! ### a line that is left out -/
theorem run_ins {l m : List (List UInt8)} {x : List UInt8} (hx : blankD x = true) (r : Rs) (n : Nat) : runD r (l ++ x :: m) n = match runD r (l ++ m) n with
    | .inl j => .inl (if n + l.length ≤ j then j + 1 else j)
    | .inr (r', j) => .inr (r', j + 1) := by
  rw [runD_app, runD_app]
  cases h : runD r l n with
  | inl j =>
    have := (runD_bad _ _ _ _ h).2
    simp only
    rw [if_neg (by omega)]
  | inr q =>
    obtain ⟨r', j⟩ := q
    have hj := runD_at _ _ _ _ _ h
    have hst : stepD r' x = some r' := by unfold stepD; rw [hx]; rfl
    simp only
    rw [runD, hst]
    simp only
    rw [runD_num]
    cases h2 : runD r' m j with
    | inl k =>
      have := (runD_bad _ _ _ _ h2).1
      simp only
      rw [if_pos (by omega)]
    | inr q => rfl
def insI (a : Nat) (k : Int) : Int := if k > a then k + 1 else k
theorem parse_ins {l m : List (List UInt8)} {x : List UInt8} (hx : blankD x = true) (hno : ∀ r ∈ l ++ m, (10 : UInt8) ∉ r) (hnx : (10 : UInt8) ∉ x) (hlen : (unl (l ++ x :: m)).length ≤ 8192) :
    parseD (unl (l ++ x :: m)) = ((parseD (unl (l ++ m))).1, (parseD (unl (l ++ m))).2.1, insI l.length (parseD (unl (l ++ m))).2.2) := by
  have hno2 : ∀ r ∈ l ++ x :: m, (10 : UInt8) ∉ r := by
    intro r hr
    rcases List.mem_append.1 hr with h | h
    · exact hno r (List.mem_append.2 (.inl h))
    · rcases List.mem_cons.1 h with rfl | h
      · exact hnx
      · exact hno r (List.mem_append.2 (.inr h))
  have hl2 : (unl (l ++ m)).length ≤ 8192 := by
    simp only [unl, List.flatMap_append, List.flatMap_cons, List.length_append] at hlen ⊢
    omega
  unfold parseD
  rw [if_neg (by omega), if_neg (by omega), linesD_rows hno, linesD_rows hno2]
  simp only
  rw [run_ins hx]
  cases h : runD ⟨[], none⟩ (l ++ m) 1 with
  | inl j =>
    simp only [endD, insI]
    by_cases hj : 1 + l.length ≤ j
    · have : ((j : Int) > (l.length : Int)) := by omega
      simp [hj, this]
    · have : ¬ ((j : Int) > (l.length : Int)) := by omega
      simp [hj, this]
  | inr q =>
    obtain ⟨r, j⟩ := q
    have hj := runD_at _ _ _ _ _ h
    simp only [endD]
    by_cases hr : r.now = none
    · simp [hr, insI]
    · simp only [List.length_append] at hj
      have : ((j : Int) > (l.length : Int)) := by omega
      simp [hr, insI, this]
theorem parse_blanks {note : List UInt8} (c1 c2 : UInt8) (h1 : spB c1 = true) (h2 : c2 = 35 ∨ c2 = 59) : blankD (c1 :: c2 :: note) = true := by
  unfold blankD
  rw [dropW_cons h1, dropW_stop (by rcases h2 with rfl | rfl <;> decide)]
  rcases h2 with rfl | rfl <;> rfl
end Go.Proofs.YtdlfomiclkpibaaDoorPv
namespace Go.Proofs.YtdlfomiclkpibaaDoorPv
open Go
set_option linter.unusedSimpArgs false
set_option linter.unusedVariables false
set_option maxHeartbeats 4000000
attribute [local go_sem ↓] e_mv e_pick e_bin e_eqs e_beq e_un e_cvi e_str e_s2b e_b2s e_box e_build e_bsl e_ld e_st e_nck e_mkf e_slcS e_slcL e_fa e_fld e_ia e_iaa e_ix e_ixa e_ext e_lenS e_lenL e_mnmx e_app e_appb e_bbx e_msl e_clr e_call e_callv pa_t pa_c pa_f slcSP_str hiOf_some hiOf_none loOf_some loOf_none set_eq set_ne
attribute [local go_sem] pv pv1 simple frOf_0 frOf_1 frOf_2 frOf_3 frOf_4 frOf_5 ne_eq not_false_eq_true if_true Bool.false_eq_true if_false pbin punary Option.map_some Option.bind_some pick_and pick_or opt_true Bool.true_and Bool.and_self Bool.and_true Bool.true_or Bool.false_or Bool.not_true Bool.not_false callE pcall_eq List.map_cons List.map_nil List.append_nil List.nil_append List.cons_append mapM_cons' mapM_nil' dep_eq fz_sc fz_sl fz_em fz_fn fz_fp fz_agg fz_tu fz_bx fz_ob Nat.lt_irrefl Nat.zero_lt_one Nat.lt_add_one flat clL cl Bool.or_true okc_sc okc_em okc_sl okc_ob okc_bx okc_fp okc_fn okc_agg okc_ifc cells_agg cells_sc cells_sl cells_em cells_ob cells_fn cells_bx cells_fp List.length_cons List.length_nil Nat.zero_add and_self true_and and_true new_m new_c put_m put_c nil_m nil_c deref List.getElem?_cons_zero List.getElem?_cons_succ List.drop_zero List.drop_succ_cons List.take_succ_cons List.take_zero Nat.le_refl false_and and_false decide_true decide_false lenP_em lenP_nil lenP_sl lenP_ob Int.ofNat_zero
set_option maxRecDepth 8000
section
variable {env : Nat → Option Def} {fr : Fr} {σ σ' σ'' : St} {K : Fr → St → Prop} {Q : X → Fr → St → Prop} {p : PV} {bs : List UInt8}
theorem dfs_all (l : List Df) : (dfs l).all (fun x => (cellsOf x).length == 3) = true := by
  rw [List.all_eq_true]
  intro x hx
  simp only [dfs, List.mem_map] at hx
  obtain ⟨m, _, rfl⟩ := hx
  rfl
theorem dfs_cut (l : List Df) (n : Nat) : (dfs l).take (min l.length n) = dfs (l.take n) := by
  unfold dfs
  rw [← List.map_take]
  congr 1
  by_cases h : l.length ≤ n
  · rw [Nat.min_eq_left h, List.take_length, List.take_of_length_le h]
  · rw [Nat.min_eq_right (by omega)]
theorem txts_cut (l : List (List UInt8)) (n : Nat) : (txts l).take (min l.length n) = txts (l.take n) := by
  unfold txts
  rw [← List.map_take]
  congr 1
  by_cases h : l.length ≤ n
  · rw [Nat.min_eq_left h, List.take_length, List.take_of_length_le h]
  · rw [Nat.min_eq_right (by omega)]
theorem u8_cut (l : List UInt8) (n : Nat) : l.take (min l.length n) = l.take n := by
  by_cases h : l.length ≤ n
  · rw [Nat.min_eq_left h, List.take_length, List.take_of_length_le h]
  · rw [Nat.min_eq_right (by omega)]
theorem Fw.newput {s : Nat} {l : List Df} (h : Fw σ s p l) {o : Nat} (ho : 2000000 ≤ o) (hs : s < 2000000) (y z : Obj) : Fw ((σ.new o y).put o (σ.c o) (some z)) s p l :=
  (h.new o y).put ho hs (x := y) (by simp only [new_m]; rw [if_pos ⟨trivial, trivial⟩]) _
theorem a7 (H : Has ldk env) {l : List Df} (hl : l.length ≤ 9223372036854775807) : AV env 7 [.sl (dfs l)] = some (.sl (dfs (fewB l))) := by
  have hln := dfs_len l
  have b66 : ∀ (n : Nat) (k : IntKind), bound n (.sc (.int k (min (n : Int) 66))) = some (min n 66) := fun n k => bound_min rfl
  have b70 : ∀ (n : Nat) (k : IntKind), bound n (.sc (.int k (min (n : Int) 70))) = some (min n 70) := fun n k => bound_min rfl
  have b205 : ∀ (n : Nat) (k : IntKind), bound n (.sc (.int k (min (n : Int) 205))) = some (min n 205) := fun n k => bound_min rfl
  have hall := dfs_all l
  have hct := dfs_cut l 66
  refine AV_wp (H (7, d7) (by simp [ldk])) rfl ?_
  (repeat' first
    | refine w_seq ?_ | refine w_rg ?_ | refine wo_nil ?_ | refine g_skU ?_
    | ((first | apply s_plain | apply s_void | apply s_guard); · simp only [go_sem, Nat.reduceEqDiff, Nat.reduceAdd, Nat.reduceLeDiff, hln, mn2, slcLP_sl, hall, b66, hct, List.drop_zero]; (first | done | rfl))
    | ((first | apply g_T | apply g_F); · intro hb; simp only [go_sem, Nat.reduceEqDiff, Nat.reduceAdd, Nat.reduceLeDiff, hln, mn2, slcLP_sl, hall, b66, hct, List.drop_zero, hb]; (first | done | rfl))
    | ((first | apply g_gT | apply g_gF); · intro hb hc; simp only [go_sem, Nat.reduceEqDiff, Nat.reduceAdd, Nat.reduceLeDiff, hln, mn2, slcLP_sl, hall, b66, hct, List.drop_zero, hb, hc]; (first | done | rfl))
    | refine g_skT ?_ | refine g_skF ?_
    | ((first | apply g_goT | apply g_goF); · simp only [go_sem, Nat.reduceEqDiff, Nat.reduceAdd, Nat.reduceLeDiff, hln, mn2, slcLP_sl, hall, b66, hct, List.drop_zero]; (first | done | rfl))
    | fail
    )
  have hL : (l.take 66).length ≤ 66 := by rw [List.length_take]; omega
  have hfb : fewB l = (l.take 66).map fewD := rfl
  rw [hfb]
  generalize l.take 66 = L at hL
  have hLn := dfs_len L
  refine w_block (w_rangeF (tc := 18) (ti := 17) (tn := 16) (tk := 79) L.length (by omega) (fun i fr σ => Fw σ 78 (fr 3) ((L.take i).map fewD)) ⟨by decide, rfl, rfl⟩ (fun i fr σ v h => ⟨by simp only [go_sem, Nat.reduceEqDiff, Nat.reduceAdd, Nat.reduceLeDiff]; exact h, by simp only [go_sem, Nat.reduceEqDiff, Nat.reduceAdd, Nat.reduceLeDiff]; exact h, by simp only [go_sem, Nat.reduceEqDiff, Nat.reduceAdd, Nat.reduceLeDiff]; exact h⟩) (by simp only [go_sem, Nat.reduceEqDiff, Nat.reduceAdd, Nat.reduceLeDiff]; exact ⟨Fresh.nil, [], .em, rfl, rfl⟩) (by simp only [go_sem, Nat.reduceEqDiff, Nat.reduceAdd, Nat.reduceLeDiff]; first | done | rfl) (by simp only [go_sem, Nat.reduceEqDiff, Nat.reduceAdd, Nat.reduceLeDiff, hLn]; first | done | rfl) ?_ ?_)
  · rintro i fr1 σ1 hi hw hti hfr
    have f0_15 := hfr 15 rfl; have f0_16 := hfr 16 rfl; try (simp only [go_sem, Nat.reduceEqDiff, Nat.reduceAdd, Nat.reduceLeDiff] at f0_15); try (simp only [go_sem, Nat.reduceEqDiff, Nat.reduceAdd, Nat.reduceLeDiff] at f0_16)
    have hqd := List.getElem?_eq_getElem hi
    have hx := dfs_at hqd
    have e1 : (0 : Int) ≤ (i : Int) ∧ (i : Int) < (L.length : Int) := by omega
    have hnext : (L.take (i + 1)).map fewD = (L.take i).map fewD ++ [fewD L[i]] := by rw [← List.take_append_getElem hi, List.map_append]; rfl
    generalize hd : L[i] = d at hx hnext
    have hll := txts_len d.ks
    have hlv := txts_len d.vs
    have ak := txts_all d.ks
    have av := txts_all d.vs
    have ck := txts_cut d.ks 66
    have cv := txts_cut d.vs 66
    have ct := u8_cut d.ty 70
    unfold df at hx
    refine w_block ?_
    (repeat' first
    | refine w_seq ?_ | refine w_rg ?_ | refine wo_nil ?_ | refine g_skU ?_
    | ((first | apply s_plain | apply s_void | apply s_guard); · simp only [go_sem, Nat.reduceEqDiff, Nat.reduceAdd, Nat.reduceLeDiff, f0_15, f0_16, hti, e1, hLn, Int.toNat_natCast, hx, hll, mn2, slcLP_sl, ak, b66, b70, ck, ct, List.drop_zero, ba_data, ba_size, ba_toList, ba_extract, ba_append, List.toList_toArray, splice, fillP, fillE, List.modify_zero_cons, List.replicate_succ, List.replicate_zero, List.set_cons_zero, List.drop_zero]; (first | done | rfl))
    | ((first | apply g_T | apply g_F); · intro hb; simp only [go_sem, Nat.reduceEqDiff, Nat.reduceAdd, Nat.reduceLeDiff, f0_15, f0_16, hti, e1, hLn, Int.toNat_natCast, hx, hll, mn2, slcLP_sl, ak, b66, b70, ck, ct, List.drop_zero, ba_data, ba_size, ba_toList, ba_extract, ba_append, List.toList_toArray, splice, fillP, fillE, List.modify_zero_cons, List.replicate_succ, List.replicate_zero, List.set_cons_zero, List.drop_zero, hb]; (first | done | rfl))
    | ((first | apply g_gT | apply g_gF); · intro hb hc; simp only [go_sem, Nat.reduceEqDiff, Nat.reduceAdd, Nat.reduceLeDiff, f0_15, f0_16, hti, e1, hLn, Int.toNat_natCast, hx, hll, mn2, slcLP_sl, ak, b66, b70, ck, ct, List.drop_zero, ba_data, ba_size, ba_toList, ba_extract, ba_append, List.toList_toArray, splice, fillP, fillE, List.modify_zero_cons, List.replicate_succ, List.replicate_zero, List.set_cons_zero, List.drop_zero, hb, hc]; (first | done | rfl))
    | refine g_skT ?_ | refine g_skF ?_
    | ((first | apply g_goT | apply g_goF); · simp only [go_sem, Nat.reduceEqDiff, Nat.reduceAdd, Nat.reduceLeDiff, f0_15, f0_16, hti, e1, hLn, Int.toNat_natCast, hx, hll, mn2, slcLP_sl, ak, b66, b70, ck, ct, List.drop_zero, ba_data, ba_size, ba_toList, ba_extract, ba_append, List.toList_toArray, splice, fillP, fillE, List.modify_zero_cons, List.replicate_succ, List.replicate_zero, List.set_cons_zero, List.drop_zero]; (first | done | rfl))
    | fail
    )
    generalize hks : d.ks.take 66 = ks at ck
    have hkl : ks.length ≤ 66 := by rw [← hks, List.length_take]; omega
    have hkn := txts_len ks
    have hw0 := (hw.newput (o := 2000005) (by decide) (by decide) ⟨3, [.agg [.sc (.string ⟨#[]⟩), .em, .em]], true, true⟩ ⟨3, [df d], true, true⟩).newput (o := 2000006) (by decide) (by decide) ⟨3, [.agg [.sc (.string ⟨#[]⟩), .em, .em]], true, true⟩ ⟨3, [.agg [txt (d.ty.take 70), .em, .em]], true, true⟩
    refine w_block (w_rangeF (tc := 38) (ti := 37) (tn := 36) (tk := 51) ks.length (by omega) (fun j fr σ => Fw σ 78 (fr1 3) ((L.take i).map fewD) ∧ σ.m 2000005 (σ1.c 2000005) = some ⟨3, [df d], true, true⟩ ∧ ∃ pk, σ.m 2000006 (σ1.c 2000006) = some ⟨3, [.agg [txt (d.ty.take 70), pk, .em]], true, true⟩ ∧ Gat σ [49] 1 false pk (txts ((ks.take j).map (List.take 70)))) ⟨by decide, rfl, rfl⟩ (fun _ _ _ _ h => ⟨h, h, h⟩) ⟨hw0, by simp only [go_sem, Nat.reduceEqDiff, Nat.reduceAdd, Nat.reduceLeDiff]; rfl, .em, by simp only [go_sem, Nat.reduceEqDiff, Nat.reduceAdd, Nat.reduceLeDiff, splice, fillP, fillE, List.modify_zero_cons, List.replicate_succ, List.replicate_zero, List.set_cons_zero, List.drop_zero], .em⟩ (by simp only [go_sem, Nat.reduceEqDiff, Nat.reduceAdd, Nat.reduceLeDiff]; first | done | rfl) (by simp only [go_sem, Nat.reduceEqDiff, Nat.reduceAdd, Nat.reduceLeDiff, hkn]; first | done | rfl) ?_ ?_)
    · rintro j fr2 σ2 hj ⟨hw2, hm5, pk, hm6, hg⟩ gti hfr
      have e1_2 := hfr 2 rfl; have e1_3 := hfr 3 rfl; have e1_5 := hfr 5 rfl; have e1_6 := hfr 6 rfl; have e1_15 := hfr 15 rfl; have e1_16 := hfr 16 rfl; have e1_17 := hfr 17 rfl; have e1_18 := hfr 18 rfl; have e1_19 := hfr 19 rfl; have e1_20 := hfr 20 rfl; have e1_21 := hfr 21 rfl; have e1_22 := hfr 22 rfl; have e1_23 := hfr 23 rfl; have e1_24 := hfr 24 rfl; have e1_25 := hfr 25 rfl; have e1_26 := hfr 26 rfl; have e1_27 := hfr 27 rfl; have e1_28 := hfr 28 rfl; have e1_29 := hfr 29 rfl; have e1_30 := hfr 30 rfl; have e1_31 := hfr 31 rfl; have e1_32 := hfr 32 rfl; have e1_33 := hfr 33 rfl; have e1_34 := hfr 34 rfl; have e1_35 := hfr 35 rfl; have e1_36 := hfr 36 rfl; try (simp only [go_sem, Nat.reduceEqDiff, Nat.reduceAdd, Nat.reduceLeDiff] at e1_2); try (simp only [go_sem, Nat.reduceEqDiff, Nat.reduceAdd, Nat.reduceLeDiff] at e1_3); try (simp only [go_sem, Nat.reduceEqDiff, Nat.reduceAdd, Nat.reduceLeDiff] at e1_5); try (simp only [go_sem, Nat.reduceEqDiff, Nat.reduceAdd, Nat.reduceLeDiff] at e1_6); try (simp only [go_sem, Nat.reduceEqDiff, Nat.reduceAdd, Nat.reduceLeDiff] at e1_15); try (simp only [go_sem, Nat.reduceEqDiff, Nat.reduceAdd, Nat.reduceLeDiff] at e1_16); try (simp only [go_sem, Nat.reduceEqDiff, Nat.reduceAdd, Nat.reduceLeDiff] at e1_17); try (simp only [go_sem, Nat.reduceEqDiff, Nat.reduceAdd, Nat.reduceLeDiff] at e1_18); try (simp only [go_sem, Nat.reduceEqDiff, Nat.reduceAdd, Nat.reduceLeDiff] at e1_19); try (simp only [go_sem, Nat.reduceEqDiff, Nat.reduceAdd, Nat.reduceLeDiff] at e1_20); try (simp only [go_sem, Nat.reduceEqDiff, Nat.reduceAdd, Nat.reduceLeDiff] at e1_21); try (simp only [go_sem, Nat.reduceEqDiff, Nat.reduceAdd, Nat.reduceLeDiff] at e1_22); try (simp only [go_sem, Nat.reduceEqDiff, Nat.reduceAdd, Nat.reduceLeDiff] at e1_23); try (simp only [go_sem, Nat.reduceEqDiff, Nat.reduceAdd, Nat.reduceLeDiff] at e1_24); try (simp only [go_sem, Nat.reduceEqDiff, Nat.reduceAdd, Nat.reduceLeDiff] at e1_25); try (simp only [go_sem, Nat.reduceEqDiff, Nat.reduceAdd, Nat.reduceLeDiff] at e1_26); try (simp only [go_sem, Nat.reduceEqDiff, Nat.reduceAdd, Nat.reduceLeDiff] at e1_27); try (simp only [go_sem, Nat.reduceEqDiff, Nat.reduceAdd, Nat.reduceLeDiff] at e1_28); try (simp only [go_sem, Nat.reduceEqDiff, Nat.reduceAdd, Nat.reduceLeDiff] at e1_29); try (simp only [go_sem, Nat.reduceEqDiff, Nat.reduceAdd, Nat.reduceLeDiff] at e1_30); try (simp only [go_sem, Nat.reduceEqDiff, Nat.reduceAdd, Nat.reduceLeDiff] at e1_31); try (simp only [go_sem, Nat.reduceEqDiff, Nat.reduceAdd, Nat.reduceLeDiff] at e1_32); try (simp only [go_sem, Nat.reduceEqDiff, Nat.reduceAdd, Nat.reduceLeDiff] at e1_33); try (simp only [go_sem, Nat.reduceEqDiff, Nat.reduceAdd, Nat.reduceLeDiff] at e1_34); try (simp only [go_sem, Nat.reduceEqDiff, Nat.reduceAdd, Nat.reduceLeDiff] at e1_35); try (simp only [go_sem, Nat.reduceEqDiff, Nat.reduceAdd, Nat.reduceLeDiff] at e1_36)
      have z6 : fr2 6 = .bx 2000006 (σ1.c 2000006) 3 0 0 := by rw [hfr 6 rfl]; simp only [go_sem, Nat.reduceEqDiff, Nat.reduceAdd, Nat.reduceLeDiff]
      have hqk := List.getElem?_eq_getElem hj
      have hxk := txts_at hqk
      have f1 : (0 : Int) ≤ (j : Int) ∧ (j : Int) < (ks.length : Int) := by omega
      have ct2 := u8_cut ks[j] 70
      have hnx : (ks.take (j + 1)).map (List.take 70) = (ks.take j).map (List.take 70) ++ [ks[j].take 70] := by rw [← List.take_append_getElem hj, List.map_append]; rfl
      have hlj : ((ks.take j).map (List.take 70)).length = j := by rw [List.length_map, List.length_take]; omega
      refine w_block ?_
      (repeat' first
    | refine w_seq ?_ | refine w_rg ?_ | refine wo_nil ?_ | refine g_skU ?_
    | ((first | apply s_plain | apply s_void | apply s_guard); · simp only [go_sem, Nat.reduceEqDiff, Nat.reduceAdd, Nat.reduceLeDiff, e1_2, e1_3, e1_5, e1_6, e1_15, e1_16, e1_17, e1_18, e1_19, e1_20, e1_21, e1_22, e1_23, e1_24, e1_25, e1_26, e1_27, e1_28, e1_29, e1_30, e1_31, e1_32, e1_33, e1_34, e1_35, e1_36, z6, gti, f1, hkn, Int.toNat_natCast, hxk, hm6, mn2, b70, ct2, ba_data, ba_size, ba_toList, ba_extract, ba_append, List.toList_toArray, splice, fillP, fillE, List.modify_zero_cons, List.replicate_succ, List.replicate_zero, List.set_cons_zero, List.drop_zero]; (first | done | rfl))
    | ((first | apply g_T | apply g_F); · intro hb; simp only [go_sem, Nat.reduceEqDiff, Nat.reduceAdd, Nat.reduceLeDiff, e1_2, e1_3, e1_5, e1_6, e1_15, e1_16, e1_17, e1_18, e1_19, e1_20, e1_21, e1_22, e1_23, e1_24, e1_25, e1_26, e1_27, e1_28, e1_29, e1_30, e1_31, e1_32, e1_33, e1_34, e1_35, e1_36, z6, gti, f1, hkn, Int.toNat_natCast, hxk, hm6, mn2, b70, ct2, ba_data, ba_size, ba_toList, ba_extract, ba_append, List.toList_toArray, splice, fillP, fillE, List.modify_zero_cons, List.replicate_succ, List.replicate_zero, List.set_cons_zero, List.drop_zero, hb]; (first | done | rfl))
    | ((first | apply g_gT | apply g_gF); · intro hb hc; simp only [go_sem, Nat.reduceEqDiff, Nat.reduceAdd, Nat.reduceLeDiff, e1_2, e1_3, e1_5, e1_6, e1_15, e1_16, e1_17, e1_18, e1_19, e1_20, e1_21, e1_22, e1_23, e1_24, e1_25, e1_26, e1_27, e1_28, e1_29, e1_30, e1_31, e1_32, e1_33, e1_34, e1_35, e1_36, z6, gti, f1, hkn, Int.toNat_natCast, hxk, hm6, mn2, b70, ct2, ba_data, ba_size, ba_toList, ba_extract, ba_append, List.toList_toArray, splice, fillP, fillE, List.modify_zero_cons, List.replicate_succ, List.replicate_zero, List.set_cons_zero, List.drop_zero, hb, hc]; (first | done | rfl))
    | refine g_skT ?_ | refine g_skF ?_
    | ((first | apply g_goT | apply g_goF); · simp only [go_sem, Nat.reduceEqDiff, Nat.reduceAdd, Nat.reduceLeDiff, e1_2, e1_3, e1_5, e1_6, e1_15, e1_16, e1_17, e1_18, e1_19, e1_20, e1_21, e1_22, e1_23, e1_24, e1_25, e1_26, e1_27, e1_28, e1_29, e1_30, e1_31, e1_32, e1_33, e1_34, e1_35, e1_36, z6, gti, f1, hkn, Int.toNat_natCast, hxk, hm6, mn2, b70, ct2, ba_data, ba_size, ba_toList, ba_extract, ba_append, List.toList_toArray, splice, fillP, fillE, List.modify_zero_cons, List.replicate_succ, List.replicate_zero, List.set_cons_zero, List.drop_zero]; (first | done | rfl))
    | fail
    )
      refine s_gatS (d := 49) (t := 42) (x := .t 48) (xs := txts ((ks.take j).map (List.take 70))) (e := txt (ks[j].take 70)) (by simp only [go_sem, Nat.reduceEqDiff, Nat.reduceAdd, Nat.reduceLeDiff]; exact hg.new _) (hw2.new _ _).f (by simp only [go_sem, Nat.reduceEqDiff, Nat.reduceAdd, Nat.reduceLeDiff, srcOf, elemsOf, List.drop_zero]) rfl rfl (by rw [txts_len, hlj]; omega) ?_
      intro p2 σ3 hg2 hs2 hf2 hm hc
      have hw3 := (hw2.new _ _).step hs2 hf2 (fun g _ => hm 78 g (by decide)) (by rw [hc 78 (by decide)]; exact Nat.le_refl _)
      have hm5' : σ3.m 2000005 (σ1.c 2000005) = some ⟨3, [df d], true, true⟩ := by rw [hm _ _ (by decide)]; simp only [go_sem, Nat.reduceEqDiff, Nat.reduceAdd, Nat.reduceLeDiff, hm5]
      have hm6' : σ3.m 2000006 (σ1.c 2000006) = some ⟨3, [.agg [txt (d.ty.take 70), pk, .em]], true, true⟩ := by rw [hm _ _ (by decide)]; simp only [go_sem, Nat.reduceEqDiff, Nat.reduceAdd, Nat.reduceLeDiff, hm6]
      obtain ⟨ok1, ok2⟩ := hg2.ok
      (repeat' first
    | refine w_seq ?_ | refine w_rg ?_ | refine wo_nil ?_ | refine g_skU ?_
    | ((first | apply s_plain | apply s_void | apply s_guard); · simp only [go_sem, Nat.reduceEqDiff, Nat.reduceAdd, Nat.reduceLeDiff, z6, hm6', ok1, ok2, splice, fillP, fillE, List.modify_zero_cons, List.replicate_succ, List.replicate_zero, List.set_cons_zero, List.drop_zero]; (first | done | rfl))
    | ((first | apply g_T | apply g_F); · intro hb; simp only [go_sem, Nat.reduceEqDiff, Nat.reduceAdd, Nat.reduceLeDiff, z6, hm6', ok1, ok2, splice, fillP, fillE, List.modify_zero_cons, List.replicate_succ, List.replicate_zero, List.set_cons_zero, List.drop_zero, hb]; (first | done | rfl))
    | ((first | apply g_gT | apply g_gF); · intro hb hc; simp only [go_sem, Nat.reduceEqDiff, Nat.reduceAdd, Nat.reduceLeDiff, z6, hm6', ok1, ok2, splice, fillP, fillE, List.modify_zero_cons, List.replicate_succ, List.replicate_zero, List.set_cons_zero, List.drop_zero, hb, hc]; (first | done | rfl))
    | refine g_skT ?_ | refine g_skF ?_
    | ((first | apply g_goT | apply g_goF); · simp only [go_sem, Nat.reduceEqDiff, Nat.reduceAdd, Nat.reduceLeDiff, z6, hm6', ok1, ok2, splice, fillP, fillE, List.modify_zero_cons, List.replicate_succ, List.replicate_zero, List.set_cons_zero, List.drop_zero]; (first | done | rfl))
    | fail
    )
      refine ⟨hw3.put (by decide) (by decide) hm6' _, by simp only [go_sem, Nat.reduceEqDiff, Nat.reduceAdd, Nat.reduceLeDiff, hm5'], p2, by simp only [go_sem, Nat.reduceEqDiff, Nat.reduceAdd, Nat.reduceLeDiff, splice, fillP, fillE, List.modify_zero_cons, List.replicate_succ, List.replicate_zero, List.set_cons_zero, List.drop_zero], ?_⟩
      rw [hnx]
      have e2 : txts ((ks.take j).map (List.take 70) ++ [ks[j].take 70]) = txts ((ks.take j).map (List.take 70)) ++ [txt (ks[j].take 70)] := by simp [txts]
      rw [e2]
      exact hg2.put (by decide) _
    · rintro fr2 σ2 ⟨hw2, hm5, pk, hm6, hg⟩ hfr
      have e1_2 := hfr 2 rfl; have e1_3 := hfr 3 rfl; have e1_5 := hfr 5 rfl; have e1_6 := hfr 6 rfl; have e1_15 := hfr 15 rfl; have e1_16 := hfr 16 rfl; have e1_17 := hfr 17 rfl; have e1_18 := hfr 18 rfl; have e1_19 := hfr 19 rfl; have e1_20 := hfr 20 rfl; have e1_21 := hfr 21 rfl; have e1_22 := hfr 22 rfl; have e1_23 := hfr 23 rfl; have e1_24 := hfr 24 rfl; have e1_25 := hfr 25 rfl; have e1_26 := hfr 26 rfl; have e1_27 := hfr 27 rfl; have e1_28 := hfr 28 rfl; have e1_29 := hfr 29 rfl; have e1_30 := hfr 30 rfl; have e1_31 := hfr 31 rfl; have e1_32 := hfr 32 rfl; have e1_33 := hfr 33 rfl; have e1_34 := hfr 34 rfl; have e1_35 := hfr 35 rfl; have e1_36 := hfr 36 rfl; try (simp only [go_sem, Nat.reduceEqDiff, Nat.reduceAdd, Nat.reduceLeDiff] at e1_2); try (simp only [go_sem, Nat.reduceEqDiff, Nat.reduceAdd, Nat.reduceLeDiff] at e1_3); try (simp only [go_sem, Nat.reduceEqDiff, Nat.reduceAdd, Nat.reduceLeDiff] at e1_5); try (simp only [go_sem, Nat.reduceEqDiff, Nat.reduceAdd, Nat.reduceLeDiff] at e1_6); try (simp only [go_sem, Nat.reduceEqDiff, Nat.reduceAdd, Nat.reduceLeDiff] at e1_15); try (simp only [go_sem, Nat.reduceEqDiff, Nat.reduceAdd, Nat.reduceLeDiff] at e1_16); try (simp only [go_sem, Nat.reduceEqDiff, Nat.reduceAdd, Nat.reduceLeDiff] at e1_17); try (simp only [go_sem, Nat.reduceEqDiff, Nat.reduceAdd, Nat.reduceLeDiff] at e1_18); try (simp only [go_sem, Nat.reduceEqDiff, Nat.reduceAdd, Nat.reduceLeDiff] at e1_19); try (simp only [go_sem, Nat.reduceEqDiff, Nat.reduceAdd, Nat.reduceLeDiff] at e1_20); try (simp only [go_sem, Nat.reduceEqDiff, Nat.reduceAdd, Nat.reduceLeDiff] at e1_21); try (simp only [go_sem, Nat.reduceEqDiff, Nat.reduceAdd, Nat.reduceLeDiff] at e1_22); try (simp only [go_sem, Nat.reduceEqDiff, Nat.reduceAdd, Nat.reduceLeDiff] at e1_23); try (simp only [go_sem, Nat.reduceEqDiff, Nat.reduceAdd, Nat.reduceLeDiff] at e1_24); try (simp only [go_sem, Nat.reduceEqDiff, Nat.reduceAdd, Nat.reduceLeDiff] at e1_25); try (simp only [go_sem, Nat.reduceEqDiff, Nat.reduceAdd, Nat.reduceLeDiff] at e1_26); try (simp only [go_sem, Nat.reduceEqDiff, Nat.reduceAdd, Nat.reduceLeDiff] at e1_27); try (simp only [go_sem, Nat.reduceEqDiff, Nat.reduceAdd, Nat.reduceLeDiff] at e1_28); try (simp only [go_sem, Nat.reduceEqDiff, Nat.reduceAdd, Nat.reduceLeDiff] at e1_29); try (simp only [go_sem, Nat.reduceEqDiff, Nat.reduceAdd, Nat.reduceLeDiff] at e1_30); try (simp only [go_sem, Nat.reduceEqDiff, Nat.reduceAdd, Nat.reduceLeDiff] at e1_31); try (simp only [go_sem, Nat.reduceEqDiff, Nat.reduceAdd, Nat.reduceLeDiff] at e1_32); try (simp only [go_sem, Nat.reduceEqDiff, Nat.reduceAdd, Nat.reduceLeDiff] at e1_33); try (simp only [go_sem, Nat.reduceEqDiff, Nat.reduceAdd, Nat.reduceLeDiff] at e1_34); try (simp only [go_sem, Nat.reduceEqDiff, Nat.reduceAdd, Nat.reduceLeDiff] at e1_35); try (simp only [go_sem, Nat.reduceEqDiff, Nat.reduceAdd, Nat.reduceLeDiff] at e1_36)
      have z6 : fr2 6 = .bx 2000006 (σ1.c 2000006) 3 0 0 := by rw [hfr 6 rfl]; simp only [go_sem, Nat.reduceEqDiff, Nat.reduceAdd, Nat.reduceLeDiff]
      have z5 : fr2 5 = .bx 2000005 (σ1.c 2000005) 3 0 0 := by rw [hfr 5 rfl]; simp only [go_sem, Nat.reduceEqDiff, Nat.reduceAdd, Nat.reduceLeDiff]
      have z3 : fr2 3 = fr1 3 := by rw [hfr 3 rfl]; simp only [go_sem, Nat.reduceEqDiff, Nat.reduceAdd, Nat.reduceLeDiff]
      try simp only [if_true]
      rw [List.take_length] at hg
      have hrk := gat_rd hg (by decide) (txts_rd σ2 0 _)
      have hok := hg.ok
      clear hg
      unfold df at hm5
      (repeat' first
    | refine w_seq ?_ | refine w_rg ?_ | refine wo_nil ?_ | refine g_skU ?_
    | ((first | apply s_plain | apply s_void | apply s_guard); · simp only [go_sem, Nat.reduceEqDiff, Nat.reduceAdd, Nat.reduceLeDiff, e1_2, e1_3, e1_5, e1_6, e1_15, e1_16, e1_17, e1_18, e1_19, e1_20, e1_21, e1_22, e1_23, e1_24, e1_25, e1_26, e1_27, e1_28, e1_29, e1_30, e1_31, e1_32, e1_33, e1_34, e1_35, e1_36, z5, hm5, hlv, mn2, slcLP_sl, av, b66, cv, List.drop_zero, ba_data, ba_size, ba_toList, ba_extract, ba_append, List.toList_toArray, splice, fillP, fillE, List.modify_zero_cons, List.replicate_succ, List.replicate_zero, List.set_cons_zero, List.drop_zero]; (first | done | rfl))
    | ((first | apply g_T | apply g_F); · intro hb; simp only [go_sem, Nat.reduceEqDiff, Nat.reduceAdd, Nat.reduceLeDiff, e1_2, e1_3, e1_5, e1_6, e1_15, e1_16, e1_17, e1_18, e1_19, e1_20, e1_21, e1_22, e1_23, e1_24, e1_25, e1_26, e1_27, e1_28, e1_29, e1_30, e1_31, e1_32, e1_33, e1_34, e1_35, e1_36, z5, hm5, hlv, mn2, slcLP_sl, av, b66, cv, List.drop_zero, ba_data, ba_size, ba_toList, ba_extract, ba_append, List.toList_toArray, splice, fillP, fillE, List.modify_zero_cons, List.replicate_succ, List.replicate_zero, List.set_cons_zero, List.drop_zero, hb]; (first | done | rfl))
    | ((first | apply g_gT | apply g_gF); · intro hb hc; simp only [go_sem, Nat.reduceEqDiff, Nat.reduceAdd, Nat.reduceLeDiff, e1_2, e1_3, e1_5, e1_6, e1_15, e1_16, e1_17, e1_18, e1_19, e1_20, e1_21, e1_22, e1_23, e1_24, e1_25, e1_26, e1_27, e1_28, e1_29, e1_30, e1_31, e1_32, e1_33, e1_34, e1_35, e1_36, z5, hm5, hlv, mn2, slcLP_sl, av, b66, cv, List.drop_zero, ba_data, ba_size, ba_toList, ba_extract, ba_append, List.toList_toArray, splice, fillP, fillE, List.modify_zero_cons, List.replicate_succ, List.replicate_zero, List.set_cons_zero, List.drop_zero, hb, hc]; (first | done | rfl))
    | refine g_skT ?_ | refine g_skF ?_
    | ((first | apply g_goT | apply g_goF); · simp only [go_sem, Nat.reduceEqDiff, Nat.reduceAdd, Nat.reduceLeDiff, e1_2, e1_3, e1_5, e1_6, e1_15, e1_16, e1_17, e1_18, e1_19, e1_20, e1_21, e1_22, e1_23, e1_24, e1_25, e1_26, e1_27, e1_28, e1_29, e1_30, e1_31, e1_32, e1_33, e1_34, e1_35, e1_36, z5, hm5, hlv, mn2, slcLP_sl, av, b66, cv, List.drop_zero, ba_data, ba_size, ba_toList, ba_extract, ba_append, List.toList_toArray, splice, fillP, fillE, List.modify_zero_cons, List.replicate_succ, List.replicate_zero, List.set_cons_zero, List.drop_zero]; (first | done | rfl))
    | fail
    )
      --
      generalize hvs : d.vs.take 66 = vs at cv
      have hvl : vs.length ≤ 66 := by rw [← hvs, List.length_take]; omega
      have hvn := txts_len vs
      generalize hKS : ks.map (List.take 70) = KS at hrk
      refine w_block (w_rangeF (tc := 61) (ti := 60) (tn := 59) (tk := 74) vs.length (by omega) (fun j fr σ => Fw σ 78 (fr1 3) ((L.take i).map fewD) ∧ rd σ 2 pk = some (.sl (txts KS)) ∧ ∃ pv, σ.m 2000006 (σ1.c 2000006) = some ⟨3, [.agg [txt (d.ty.take 70), pk, pv]], true, true⟩ ∧ Gat σ [72] 1 false pv (txts ((vs.take j).map (List.take 205)))) ⟨by decide, rfl, rfl⟩ (fun _ _ _ _ h => ⟨h, h, h⟩) ⟨hw2, hrk, .em, hm6, .em⟩ (by simp only [go_sem, Nat.reduceEqDiff, Nat.reduceAdd, Nat.reduceLeDiff]; first | done | rfl) (by simp only [go_sem, Nat.reduceEqDiff, Nat.reduceAdd, Nat.reduceLeDiff, hvn]; first | done | rfl) ?_ ?_)
      · rintro j fr3 σ3 hj ⟨hw3, hr3, pv, hm7, hg⟩ gti hfr
        have e2_2 := hfr 2 rfl; have e2_3 := hfr 3 rfl; have e2_5 := hfr 5 rfl; have e2_6 := hfr 6 rfl; have e2_8 := hfr 8 rfl; have e2_15 := hfr 15 rfl; have e2_16 := hfr 16 rfl; have e2_17 := hfr 17 rfl; have e2_18 := hfr 18 rfl; have e2_19 := hfr 19 rfl; have e2_20 := hfr 20 rfl; have e2_21 := hfr 21 rfl; have e2_22 := hfr 22 rfl; have e2_23 := hfr 23 rfl; have e2_24 := hfr 24 rfl; have e2_25 := hfr 25 rfl; have e2_26 := hfr 26 rfl; have e2_27 := hfr 27 rfl; have e2_28 := hfr 28 rfl; have e2_29 := hfr 29 rfl; have e2_30 := hfr 30 rfl; have e2_31 := hfr 31 rfl; have e2_32 := hfr 32 rfl; have e2_33 := hfr 33 rfl; have e2_34 := hfr 34 rfl; have e2_35 := hfr 35 rfl; have e2_36 := hfr 36 rfl; have e2_37 := hfr 37 rfl; have e2_38 := hfr 38 rfl; have e2_39 := hfr 39 rfl; have e2_40 := hfr 40 rfl; have e2_41 := hfr 41 rfl; have e2_42 := hfr 42 rfl; have e2_43 := hfr 43 rfl; have e2_44 := hfr 44 rfl; have e2_45 := hfr 45 rfl; have e2_46 := hfr 46 rfl; have e2_47 := hfr 47 rfl; have e2_48 := hfr 48 rfl; have e2_49 := hfr 49 rfl; have e2_50 := hfr 50 rfl; have e2_51 := hfr 51 rfl; have e2_52 := hfr 52 rfl; have e2_53 := hfr 53 rfl; have e2_54 := hfr 54 rfl; have e2_55 := hfr 55 rfl; have e2_56 := hfr 56 rfl; have e2_57 := hfr 57 rfl; have e2_58 := hfr 58 rfl; have e2_59 := hfr 59 rfl; try (simp only [go_sem, Nat.reduceEqDiff, Nat.reduceAdd, Nat.reduceLeDiff] at e2_2); try (simp only [go_sem, Nat.reduceEqDiff, Nat.reduceAdd, Nat.reduceLeDiff] at e2_3); try (simp only [go_sem, Nat.reduceEqDiff, Nat.reduceAdd, Nat.reduceLeDiff] at e2_5); try (simp only [go_sem, Nat.reduceEqDiff, Nat.reduceAdd, Nat.reduceLeDiff] at e2_6); try (simp only [go_sem, Nat.reduceEqDiff, Nat.reduceAdd, Nat.reduceLeDiff] at e2_8); try (simp only [go_sem, Nat.reduceEqDiff, Nat.reduceAdd, Nat.reduceLeDiff] at e2_15); try (simp only [go_sem, Nat.reduceEqDiff, Nat.reduceAdd, Nat.reduceLeDiff] at e2_16); try (simp only [go_sem, Nat.reduceEqDiff, Nat.reduceAdd, Nat.reduceLeDiff] at e2_17); try (simp only [go_sem, Nat.reduceEqDiff, Nat.reduceAdd, Nat.reduceLeDiff] at e2_18); try (simp only [go_sem, Nat.reduceEqDiff, Nat.reduceAdd, Nat.reduceLeDiff] at e2_19); try (simp only [go_sem, Nat.reduceEqDiff, Nat.reduceAdd, Nat.reduceLeDiff] at e2_20); try (simp only [go_sem, Nat.reduceEqDiff, Nat.reduceAdd, Nat.reduceLeDiff] at e2_21); try (simp only [go_sem, Nat.reduceEqDiff, Nat.reduceAdd, Nat.reduceLeDiff] at e2_22); try (simp only [go_sem, Nat.reduceEqDiff, Nat.reduceAdd, Nat.reduceLeDiff] at e2_23); try (simp only [go_sem, Nat.reduceEqDiff, Nat.reduceAdd, Nat.reduceLeDiff] at e2_24); try (simp only [go_sem, Nat.reduceEqDiff, Nat.reduceAdd, Nat.reduceLeDiff] at e2_25); try (simp only [go_sem, Nat.reduceEqDiff, Nat.reduceAdd, Nat.reduceLeDiff] at e2_26); try (simp only [go_sem, Nat.reduceEqDiff, Nat.reduceAdd, Nat.reduceLeDiff] at e2_27); try (simp only [go_sem, Nat.reduceEqDiff, Nat.reduceAdd, Nat.reduceLeDiff] at e2_28); try (simp only [go_sem, Nat.reduceEqDiff, Nat.reduceAdd, Nat.reduceLeDiff] at e2_29); try (simp only [go_sem, Nat.reduceEqDiff, Nat.reduceAdd, Nat.reduceLeDiff] at e2_30); try (simp only [go_sem, Nat.reduceEqDiff, Nat.reduceAdd, Nat.reduceLeDiff] at e2_31); try (simp only [go_sem, Nat.reduceEqDiff, Nat.reduceAdd, Nat.reduceLeDiff] at e2_32); try (simp only [go_sem, Nat.reduceEqDiff, Nat.reduceAdd, Nat.reduceLeDiff] at e2_33); try (simp only [go_sem, Nat.reduceEqDiff, Nat.reduceAdd, Nat.reduceLeDiff] at e2_34); try (simp only [go_sem, Nat.reduceEqDiff, Nat.reduceAdd, Nat.reduceLeDiff] at e2_35); try (simp only [go_sem, Nat.reduceEqDiff, Nat.reduceAdd, Nat.reduceLeDiff] at e2_36); try (simp only [go_sem, Nat.reduceEqDiff, Nat.reduceAdd, Nat.reduceLeDiff] at e2_37); try (simp only [go_sem, Nat.reduceEqDiff, Nat.reduceAdd, Nat.reduceLeDiff] at e2_38); try (simp only [go_sem, Nat.reduceEqDiff, Nat.reduceAdd, Nat.reduceLeDiff] at e2_39); try (simp only [go_sem, Nat.reduceEqDiff, Nat.reduceAdd, Nat.reduceLeDiff] at e2_40); try (simp only [go_sem, Nat.reduceEqDiff, Nat.reduceAdd, Nat.reduceLeDiff] at e2_41); try (simp only [go_sem, Nat.reduceEqDiff, Nat.reduceAdd, Nat.reduceLeDiff] at e2_42); try (simp only [go_sem, Nat.reduceEqDiff, Nat.reduceAdd, Nat.reduceLeDiff] at e2_43); try (simp only [go_sem, Nat.reduceEqDiff, Nat.reduceAdd, Nat.reduceLeDiff] at e2_44); try (simp only [go_sem, Nat.reduceEqDiff, Nat.reduceAdd, Nat.reduceLeDiff] at e2_45); try (simp only [go_sem, Nat.reduceEqDiff, Nat.reduceAdd, Nat.reduceLeDiff] at e2_46); try (simp only [go_sem, Nat.reduceEqDiff, Nat.reduceAdd, Nat.reduceLeDiff] at e2_47); try (simp only [go_sem, Nat.reduceEqDiff, Nat.reduceAdd, Nat.reduceLeDiff] at e2_48); try (simp only [go_sem, Nat.reduceEqDiff, Nat.reduceAdd, Nat.reduceLeDiff] at e2_49); try (simp only [go_sem, Nat.reduceEqDiff, Nat.reduceAdd, Nat.reduceLeDiff] at e2_50); try (simp only [go_sem, Nat.reduceEqDiff, Nat.reduceAdd, Nat.reduceLeDiff] at e2_51); try (simp only [go_sem, Nat.reduceEqDiff, Nat.reduceAdd, Nat.reduceLeDiff] at e2_52); try (simp only [go_sem, Nat.reduceEqDiff, Nat.reduceAdd, Nat.reduceLeDiff] at e2_53); try (simp only [go_sem, Nat.reduceEqDiff, Nat.reduceAdd, Nat.reduceLeDiff] at e2_54); try (simp only [go_sem, Nat.reduceEqDiff, Nat.reduceAdd, Nat.reduceLeDiff] at e2_55); try (simp only [go_sem, Nat.reduceEqDiff, Nat.reduceAdd, Nat.reduceLeDiff] at e2_56); try (simp only [go_sem, Nat.reduceEqDiff, Nat.reduceAdd, Nat.reduceLeDiff] at e2_57); try (simp only [go_sem, Nat.reduceEqDiff, Nat.reduceAdd, Nat.reduceLeDiff] at e2_58); try (simp only [go_sem, Nat.reduceEqDiff, Nat.reduceAdd, Nat.reduceLeDiff] at e2_59)
        have y6 : fr3 6 = .bx 2000006 (σ1.c 2000006) 3 0 0 := by rw [hfr 6 rfl]; simp only [go_sem, Nat.reduceEqDiff, Nat.reduceAdd, Nat.reduceLeDiff, z6]
        have hqk := List.getElem?_eq_getElem hj
        have hxk := txts_at hqk
        have f1 : (0 : Int) ≤ (j : Int) ∧ (j : Int) < (vs.length : Int) := by omega
        have ct2 := u8_cut vs[j] 205
        have hnx : (vs.take (j + 1)).map (List.take 205) = (vs.take j).map (List.take 205) ++ [vs[j].take 205] := by rw [← List.take_append_getElem hj, List.map_append]; rfl
        have hlj : ((vs.take j).map (List.take 205)).length = j := by rw [List.length_map, List.length_take]; omega
        refine w_block ?_
        (repeat' first
    | refine w_seq ?_ | refine w_rg ?_ | refine wo_nil ?_ | refine g_skU ?_
    | ((first | apply s_plain | apply s_void | apply s_guard); · simp only [go_sem, Nat.reduceEqDiff, Nat.reduceAdd, Nat.reduceLeDiff, e2_2, e2_3, e2_5, e2_6, e2_8, e2_15, e2_16, e2_17, e2_18, e2_19, e2_20, e2_21, e2_22, e2_23, e2_24, e2_25, e2_26, e2_27, e2_28, e2_29, e2_30, e2_31, e2_32, e2_33, e2_34, e2_35, e2_36, e2_37, e2_38, e2_39, e2_40, e2_41, e2_42, e2_43, e2_44, e2_45, e2_46, e2_47, e2_48, e2_49, e2_50, e2_51, e2_52, e2_53, e2_54, e2_55, e2_56, e2_57, e2_58, e2_59, y6, z6, gti, f1, hvn, Int.toNat_natCast, hxk, hm7, mn2, b205, ct2, ba_data, ba_size, ba_toList, ba_extract, ba_append, List.toList_toArray, splice, fillP, fillE, List.modify_zero_cons, List.replicate_succ, List.replicate_zero, List.set_cons_zero, List.drop_zero]; (first | done | rfl))
    | ((first | apply g_T | apply g_F); · intro hb; simp only [go_sem, Nat.reduceEqDiff, Nat.reduceAdd, Nat.reduceLeDiff, e2_2, e2_3, e2_5, e2_6, e2_8, e2_15, e2_16, e2_17, e2_18, e2_19, e2_20, e2_21, e2_22, e2_23, e2_24, e2_25, e2_26, e2_27, e2_28, e2_29, e2_30, e2_31, e2_32, e2_33, e2_34, e2_35, e2_36, e2_37, e2_38, e2_39, e2_40, e2_41, e2_42, e2_43, e2_44, e2_45, e2_46, e2_47, e2_48, e2_49, e2_50, e2_51, e2_52, e2_53, e2_54, e2_55, e2_56, e2_57, e2_58, e2_59, y6, z6, gti, f1, hvn, Int.toNat_natCast, hxk, hm7, mn2, b205, ct2, ba_data, ba_size, ba_toList, ba_extract, ba_append, List.toList_toArray, splice, fillP, fillE, List.modify_zero_cons, List.replicate_succ, List.replicate_zero, List.set_cons_zero, List.drop_zero, hb]; (first | done | rfl))
    | ((first | apply g_gT | apply g_gF); · intro hb hc; simp only [go_sem, Nat.reduceEqDiff, Nat.reduceAdd, Nat.reduceLeDiff, e2_2, e2_3, e2_5, e2_6, e2_8, e2_15, e2_16, e2_17, e2_18, e2_19, e2_20, e2_21, e2_22, e2_23, e2_24, e2_25, e2_26, e2_27, e2_28, e2_29, e2_30, e2_31, e2_32, e2_33, e2_34, e2_35, e2_36, e2_37, e2_38, e2_39, e2_40, e2_41, e2_42, e2_43, e2_44, e2_45, e2_46, e2_47, e2_48, e2_49, e2_50, e2_51, e2_52, e2_53, e2_54, e2_55, e2_56, e2_57, e2_58, e2_59, y6, z6, gti, f1, hvn, Int.toNat_natCast, hxk, hm7, mn2, b205, ct2, ba_data, ba_size, ba_toList, ba_extract, ba_append, List.toList_toArray, splice, fillP, fillE, List.modify_zero_cons, List.replicate_succ, List.replicate_zero, List.set_cons_zero, List.drop_zero, hb, hc]; (first | done | rfl))
    | refine g_skT ?_ | refine g_skF ?_
    | ((first | apply g_goT | apply g_goF); · simp only [go_sem, Nat.reduceEqDiff, Nat.reduceAdd, Nat.reduceLeDiff, e2_2, e2_3, e2_5, e2_6, e2_8, e2_15, e2_16, e2_17, e2_18, e2_19, e2_20, e2_21, e2_22, e2_23, e2_24, e2_25, e2_26, e2_27, e2_28, e2_29, e2_30, e2_31, e2_32, e2_33, e2_34, e2_35, e2_36, e2_37, e2_38, e2_39, e2_40, e2_41, e2_42, e2_43, e2_44, e2_45, e2_46, e2_47, e2_48, e2_49, e2_50, e2_51, e2_52, e2_53, e2_54, e2_55, e2_56, e2_57, e2_58, e2_59, y6, z6, gti, f1, hvn, Int.toNat_natCast, hxk, hm7, mn2, b205, ct2, ba_data, ba_size, ba_toList, ba_extract, ba_append, List.toList_toArray, splice, fillP, fillE, List.modify_zero_cons, List.replicate_succ, List.replicate_zero, List.set_cons_zero, List.drop_zero]; (first | done | rfl))
    | fail
    )
        refine s_gatS (d := 72) (t := 65) (x := .t 71) (xs := txts ((vs.take j).map (List.take 205))) (e := txt (vs[j].take 205)) (by simp only [go_sem, Nat.reduceEqDiff, Nat.reduceAdd, Nat.reduceLeDiff]; exact hg.new _) (hw3.new _ _).f (by simp only [go_sem, Nat.reduceEqDiff, Nat.reduceAdd, Nat.reduceLeDiff, srcOf, elemsOf, List.drop_zero]) rfl rfl (by rw [txts_len, hlj]; omega) ?_
        intro p2 σ4 hg2 hs2 hf2 hm hc
        have hw4 := (hw3.new _ _).step hs2 hf2 (fun g _ => hm 78 g (by decide)) (by rw [hc 78 (by decide)]; exact Nat.le_refl _)
        have hr4 := rd_sub hs2 2 _ _ (rd_sub ((SubS.refl σ3).new hw3.f _ _) 2 _ _ hr3)
        have hm8 : σ4.m 2000006 (σ1.c 2000006) = some ⟨3, [.agg [txt (d.ty.take 70), pk, pv]], true, true⟩ := by rw [hm _ _ (by decide)]; simp only [go_sem, Nat.reduceEqDiff, Nat.reduceAdd, Nat.reduceLeDiff, hm7]
        obtain ⟨ok1, ok2⟩ := hg2.ok
        (repeat' first
    | refine w_seq ?_ | refine w_rg ?_ | refine wo_nil ?_ | refine g_skU ?_
    | ((first | apply s_plain | apply s_void | apply s_guard); · simp only [go_sem, Nat.reduceEqDiff, Nat.reduceAdd, Nat.reduceLeDiff, y6, hm8, ok1, ok2, splice, fillP, fillE, List.modify_zero_cons, List.replicate_succ, List.replicate_zero, List.set_cons_zero, List.drop_zero, List.set_cons_succ]; (first | done | rfl))
    | ((first | apply g_T | apply g_F); · intro hb; simp only [go_sem, Nat.reduceEqDiff, Nat.reduceAdd, Nat.reduceLeDiff, y6, hm8, ok1, ok2, splice, fillP, fillE, List.modify_zero_cons, List.replicate_succ, List.replicate_zero, List.set_cons_zero, List.drop_zero, List.set_cons_succ, hb]; (first | done | rfl))
    | ((first | apply g_gT | apply g_gF); · intro hb hc; simp only [go_sem, Nat.reduceEqDiff, Nat.reduceAdd, Nat.reduceLeDiff, y6, hm8, ok1, ok2, splice, fillP, fillE, List.modify_zero_cons, List.replicate_succ, List.replicate_zero, List.set_cons_zero, List.drop_zero, List.set_cons_succ, hb, hc]; (first | done | rfl))
    | refine g_skT ?_ | refine g_skF ?_
    | ((first | apply g_goT | apply g_goF); · simp only [go_sem, Nat.reduceEqDiff, Nat.reduceAdd, Nat.reduceLeDiff, y6, hm8, ok1, ok2, splice, fillP, fillE, List.modify_zero_cons, List.replicate_succ, List.replicate_zero, List.set_cons_zero, List.drop_zero, List.set_cons_succ]; (first | done | rfl))
    | fail
    )
        refine ⟨hw4.put (by decide) (by decide) hm8 _, rd_sub ((SubS.refl σ4).box (by decide) _) 2 _ _ hr4, p2, by simp only [go_sem, Nat.reduceEqDiff, Nat.reduceAdd, Nat.reduceLeDiff, splice, fillP, fillE, List.modify_zero_cons, List.replicate_succ, List.replicate_zero, List.set_cons_zero, List.drop_zero], ?_⟩
        rw [hnx]
        have e2 : txts ((vs.take j).map (List.take 205) ++ [vs[j].take 205]) = txts ((vs.take j).map (List.take 205)) ++ [txt (vs[j].take 205)] := by simp [txts]
        rw [e2]
        exact hg2.put (by decide) _
      · rintro fr3 σ3 ⟨hw3, hr3, pv, hm7, hg⟩ hfr
        have y6 : fr3 6 = .bx 2000006 (σ1.c 2000006) 3 0 0 := by rw [hfr 6 rfl]; simp only [go_sem, Nat.reduceEqDiff, Nat.reduceAdd, Nat.reduceLeDiff, z6]
        have y3 : fr3 3 = fr1 3 := by rw [hfr 3 rfl]; simp only [go_sem, Nat.reduceEqDiff, Nat.reduceAdd, Nat.reduceLeDiff, z3]
        try simp only [if_true]
        rw [List.take_length] at hg
        have hrv := gat_rd hg (by decide) (txts_rd σ3 0 _)
        obtain ⟨ok1, ok2⟩ := hok
        obtain ⟨ok3, ok4⟩ := hg.ok
        (repeat' first
    | refine w_seq ?_ | refine w_rg ?_ | refine wo_nil ?_ | refine g_skU ?_
    | ((first | apply s_plain | apply s_void | apply s_guard); · simp only [go_sem, Nat.reduceEqDiff, Nat.reduceAdd, Nat.reduceLeDiff, y6, y3, hm7, splice, fillP, fillE, List.modify_zero_cons, List.replicate_succ, List.replicate_zero, List.set_cons_zero, List.drop_zero, ok2, ok4]; (first | done | rfl))
    | ((first | apply g_T | apply g_F); · intro hb; simp only [go_sem, Nat.reduceEqDiff, Nat.reduceAdd, Nat.reduceLeDiff, y6, y3, hm7, splice, fillP, fillE, List.modify_zero_cons, List.replicate_succ, List.replicate_zero, List.set_cons_zero, List.drop_zero, ok2, ok4, hb]; (first | done | rfl))
    | ((first | apply g_gT | apply g_gF); · intro hb hc; simp only [go_sem, Nat.reduceEqDiff, Nat.reduceAdd, Nat.reduceLeDiff, y6, y3, hm7, splice, fillP, fillE, List.modify_zero_cons, List.replicate_succ, List.replicate_zero, List.set_cons_zero, List.drop_zero, ok2, ok4, hb, hc]; (first | done | rfl))
    | refine g_skT ?_ | refine g_skF ?_
    | ((first | apply g_goT | apply g_goF); · simp only [go_sem, Nat.reduceEqDiff, Nat.reduceAdd, Nat.reduceLeDiff, y6, y3, hm7, splice, fillP, fillE, List.modify_zero_cons, List.replicate_succ, List.replicate_zero, List.set_cons_zero, List.drop_zero, ok2, ok4]; (first | done | rfl))
    | fail
    )
        obtain ⟨hf, xs, hgx, hxl, hxr⟩ := hw3
        have hrun : ((L.take i).map fewD).length ≤ 66 := by rw [List.length_map, List.length_take]; omega
        refine s_gatS (d := 78) (t := 75) (x := .t 77) (xs := xs) (e := .agg [txt (d.ty.take 70), pk, pv]) (by simp only [go_sem, Nat.reduceEqDiff, Nat.reduceAdd, Nat.reduceLeDiff]; exact hgx.new _) (hf.new _ _) (by simp only [go_sem, Nat.reduceEqDiff, Nat.reduceAdd, Nat.reduceLeDiff, srcOf, elemsOf, List.drop_zero]) rfl rfl (by rw [hxl]; omega) ?_
        intro p2 σ4 hg2 hs2 hf2 hm hc
        have hss : SubS σ3 σ4 := ((SubS.refl σ3).new hf _ _).trans hs2
        (repeat' first
    | refine w_seq ?_ | refine w_rg ?_ | refine wo_nil ?_ | refine g_skU ?_
    | ((first | apply s_plain | apply s_void | apply s_guard); · simp only [go_sem, Nat.reduceEqDiff, Nat.reduceAdd, Nat.reduceLeDiff]; (first | done | rfl))
    | ((first | apply g_T | apply g_F); · intro hb; simp only [go_sem, Nat.reduceEqDiff, Nat.reduceAdd, Nat.reduceLeDiff, hb]; (first | done | rfl))
    | ((first | apply g_gT | apply g_gF); · intro hb hc; simp only [go_sem, Nat.reduceEqDiff, Nat.reduceAdd, Nat.reduceLeDiff, hb, hc]; (first | done | rfl))
    | refine g_skT ?_ | refine g_skF ?_
    | ((first | apply g_goT | apply g_goF); · simp only [go_sem, Nat.reduceEqDiff, Nat.reduceAdd, Nat.reduceLeDiff]; (first | done | rfl))
    | fail
    )
        simp only [go_sem, Nat.reduceEqDiff, Nat.reduceAdd, Nat.reduceLeDiff]
        rw [hnext]
        refine ⟨hf2, xs ++ [.agg [txt (d.ty.take 70), pk, pv]], hg2, by simp only [List.length_append, List.length_cons, List.length_nil, hxl], ?_⟩
        have e2 : dfs ((L.take i).map fewD ++ [fewD d]) = dfs ((L.take i).map fewD) ++ [df (fewD d)] := by simp [dfs]
        rw [e2]
        refine mapM_snoc (mapM_imp (rd_sub hss 3) hxr) ?_
        have r1 := rd_sub hss 2 _ _ hr3
        have r2 := rd_sub hss 2 _ _ hrv
        have r3 : rd σ4 2 (txt (d.ty.take 70)) = some (txt (d.ty.take 70)) := rfl
        rw [rd_agg]
        simp only [mapM_cons', mapM_nil', r1, r2, r3, Option.bind_some, Option.map_some]
        unfold fewD df
        rw [← hKS, ← hks, ← hvs]
  · rintro fr1 σ1 hw hfr
    try simp only [if_true]
    rw [List.take_length] at hw
    obtain ⟨hf, xs, hgx, hxl, hxr⟩ := hw
    have h4 := gat_rd hgx (by decide) hxr
    have h5 : fz σ1 12 (fr1 3) = some (.sl (dfs (L.map fewD))) := rd_fz_le (by decide) h4
    (repeat' first
    | refine w_seq ?_ | refine w_rg ?_ | refine wo_nil ?_ | refine g_skU ?_
    | ((first | apply s_plain | apply s_void | apply s_guard); · simp only [go_sem, Nat.reduceEqDiff, Nat.reduceAdd, Nat.reduceLeDiff]; (first | done | rfl))
    | ((first | apply g_T | apply g_F); · intro hb; simp only [go_sem, Nat.reduceEqDiff, Nat.reduceAdd, Nat.reduceLeDiff, hb]; (first | done | rfl))
    | ((first | apply g_gT | apply g_gF); · intro hb hc; simp only [go_sem, Nat.reduceEqDiff, Nat.reduceAdd, Nat.reduceLeDiff, hb, hc]; (first | done | rfl))
    | refine g_skT ?_ | refine g_skF ?_
    | ((first | apply g_goT | apply g_goF); · simp only [go_sem, Nat.reduceEqDiff, Nat.reduceAdd, Nat.reduceLeDiff]; (first | done | rfl))
    | (refine w_condT ?_ ?_; · simp only [go_sem, Nat.reduceEqDiff, Nat.reduceAdd, Nat.reduceLeDiff]; (first | done | rfl))
    | (refine w_condF ?_ ?_; · simp only [go_sem, Nat.reduceEqDiff, Nat.reduceAdd, Nat.reduceLeDiff]; (first | done | rfl))
    | refine w_skip ?_ | refine w_exit ?_ | refine w_ret ?_
    | fail
    )
    exact ⟨.inr rfl, by simp only [go_sem, Nat.reduceEqDiff, Nat.reduceAdd, Nat.reduceLeDiff, retOf, resOf, h5]⟩
end
end Go.Proofs.YtdlfomiclkpibaaDoorPv
namespace Go.Proofs.YtdlfomiclkpibaaDoorPv
open Go
set_option linter.unusedSimpArgs false
set_option linter.unusedVariables false
set_option maxHeartbeats 4000000
attribute [local go_sem ↓] e_mv e_pick e_bin e_eqs e_beq e_un e_cvi e_str e_s2b e_b2s e_box e_build e_bsl e_ld e_st e_nck e_mkf e_slcS e_slcL e_fa e_fld e_ia e_iaa e_ix e_ixa e_ext e_lenS e_lenL e_mnmx e_app e_appb e_bbx e_msl e_clr e_call e_callv pa_t pa_c pa_f slcSP_str hiOf_some hiOf_none loOf_some loOf_none set_eq set_ne
attribute [local go_sem] pv pv1 simple frOf_0 frOf_1 frOf_2 frOf_3 frOf_4 frOf_5 ne_eq not_false_eq_true if_true Bool.false_eq_true if_false pbin punary Option.map_some Option.bind_some pick_and pick_or opt_true Bool.true_and Bool.and_self Bool.and_true Bool.true_or Bool.false_or Bool.not_true Bool.not_false callE pcall_eq List.map_cons List.map_nil List.append_nil List.nil_append List.cons_append mapM_cons' mapM_nil' dep_eq fz_sc fz_sl fz_em fz_fn fz_fp fz_agg fz_tu fz_bx fz_ob Nat.lt_irrefl Nat.zero_lt_one Nat.lt_add_one flat clL cl Bool.or_true okc_sc okc_em okc_sl okc_ob okc_bx okc_fp okc_fn okc_agg okc_ifc cells_agg cells_sc cells_sl cells_em cells_ob cells_fn cells_bx cells_fp List.length_cons List.length_nil Nat.zero_add and_self true_and and_true new_m new_c put_m put_c nil_m nil_c deref List.getElem?_cons_zero List.getElem?_cons_succ List.drop_zero List.drop_succ_cons List.take_succ_cons List.take_zero Nat.le_refl false_and and_false decide_true decide_false lenP_em lenP_nil lenP_sl lenP_ob Int.ofNat_zero
set_option maxRecDepth 8000
/-- transhipment/transhipmentlaw06.BlockPrints -/
def d1 : Def := (.code 3 [.tmp 6] (.seq (.rg false [⟨.some 6, .none, .mv (.c (.bool false))⟩]) (.seq (.rg false [⟨.some 16, .none, .mv (.t 0)⟩, ⟨.some 17, .none, .call 7 .pure [.t 16]⟩, ⟨.some 18, .none, .mv (.t 1)⟩, ⟨.some 19, .none, .call 7 .pure [.t 18]⟩, ⟨.some 0, .none, .mv (.t 17)⟩, ⟨.some 1, .none, .mv (.t 19)⟩]) (.seq (.rg false [⟨.some 21, .none, .mv (.t 0)⟩, ⟨.some 22, .none, .call 8 .pure [.t 21]⟩, ⟨.some 20, .none, .mv (.t 22)⟩, ⟨.some 23, .none, .ext (.t 20) 0⟩, ⟨.some 24, .none, .ext (.t 20) 1⟩, ⟨.some 7, .none, .mv (.t 23)⟩, ⟨.some 8, .none, .mv (.t 24)⟩]) (.seq (.seq (.rg false [⟨.some 25, .none, .mv (.t 0)⟩, ⟨.some 26, .none, .call 9 .pure [.t 25]⟩, ⟨.some 27, .none, .mv (.t 0)⟩, ⟨.some 28, .none, .call 10 .pure [.t 27]⟩, ⟨.some 29, .none, .beq true (.t 26) (.t 28)⟩, ⟨.some 30, .none, .mv (.t 29)⟩, ⟨.some 31, .some (30, false), .mv (.t 0)⟩, ⟨.some 32, .some (30, false), .mv (.t 1)⟩, ⟨.some 33, .some (30, false), .call 11 .pure [.t 31, .t 32]⟩, ⟨.some 34, .some (30, false), .mv (.t 0)⟩, ⟨.some 35, .some (30, false), .mv (.t 1)⟩, ⟨.some 36, .some (30, false), .call 12 .pure [.t 34, .t 35]⟩, ⟨.some 37, .some (30, false), .beq true (.t 33) (.t 36)⟩, ⟨.some 38, .none, .pick (.t 30) (.c (.bool true)) (.t 37)⟩, ⟨.some 39, .none, .mv (.t 38)⟩, ⟨.some 40, .some (39, false), .mv (.t 0)⟩, ⟨.some 41, .some (39, false), .mv (.t 0)⟩, ⟨.some 42, .some (39, false), .call 11 .pure [.t 40, .t 41]⟩, ⟨.some 43, .some (39, false), .un .not (.t 42)⟩, ⟨.some 44, .none, .pick (.t 39) (.c (.bool true)) (.t 43)⟩, ⟨.some 45, .none, .mv (.t 44)⟩, ⟨.some 46, .some (45, false), .call 13 .pure []⟩, ⟨.some 47, .some (45, false), .un .not (.t 46)⟩, ⟨.some 48, .none, .pick (.t 45) (.c (.bool true)) (.t 47)⟩]) (.cond (.t 48) (.seq (.rg false [⟨.some 6, .none, .mv (.c (.bool false))⟩]) .ret) .skip)) (.seq (.seq (.rg false [⟨.some 49, .none, .mv (.t 0)⟩, ⟨.some 50, .none, .lenL (.t 49)⟩, ⟨.some 51, .none, .mv (.c (.int .i64 0))⟩]) (.block 0 (.loop (.seq (.rg false [⟨.some 52, .none, .bin .lss (.t 51) (.t 50)⟩]) (.seq (.cond (.t 52) .skip (.exit 0)) (.seq (.block 1 (.seq (.rg false [⟨.some 53, .none, .ia 3 (.t 49) (.t 51)⟩, ⟨.some 54, .none, .ld (.some 3) (.t 53)⟩, ⟨.some 10, .none, .box (.c (.agg #[.string ⟨#[]⟩, .slice .none 0 0, .slice .none 0 0]))⟩, ⟨.none, .none, .st 3 (.t 10) (.t 54)⟩]) (.seq (.rg false [⟨.some 56, .none, .ld (.some 3) (.t 10)⟩, ⟨.some 57, .none, .mv (.t 2)⟩, ⟨.some 58, .none, .call 14 .pure [.t 56, .t 57]⟩, ⟨.some 55, .none, .mv (.t 58)⟩, ⟨.some 59, .none, .ext (.t 55) 0⟩, ⟨.some 60, .none, .ext (.t 55) 1⟩, ⟨.some 11, .none, .mv (.t 59)⟩, ⟨.some 12, .none, .mv (.t 60)⟩]) (.seq (.rg false [⟨.some 13, .none, .mv (.c (.int .i64 (-1)))⟩]) (.seq (.seq (.rg false [⟨.some 61, .none, .fa 1 (.t 10)⟩, ⟨.some 62, .none, .ld .none (.t 61)⟩, ⟨.some 63, .none, .lenL (.t 62)⟩, ⟨.some 64, .none, .bin .sub (.t 63) (.c (.int .i64 1))⟩, ⟨.some 14, .none, .mv (.t 64)⟩]) (.block 2 (.loop (.seq (.seq (.rg false [⟨.some 65, .none, .mv (.t 14)⟩, ⟨.some 66, .none, .bin .geq (.t 65) (.c (.int .i64 0))⟩]) (.cond (.t 66) .skip (.exit 2))) (.seq (.block 3 (.seq (.rg false [⟨.some 69, .none, .fa 1 (.t 10)⟩, ⟨.some 70, .none, .ld .none (.t 69)⟩, ⟨.some 71, .none, .mv (.t 14)⟩, ⟨.some 72, .none, .ia 1 (.t 70) (.t 71)⟩, ⟨.some 73, .none, .ld .none (.t 72)⟩, ⟨.some 74, .none, .mv (.t 2)⟩, ⟨.some 75, .none, .bin .eql (.t 73) (.t 74)⟩]) (.cond (.t 75) (.rg false [⟨.some 76, .none, .mv (.t 14)⟩, ⟨.some 13, .none, .mv (.t 76)⟩]) .skip))) (.rg false [⟨.some 67, .none, .mv (.t 14)⟩, ⟨.some 68, .none, .bin .sub (.t 67) (.c (.int .i64 1))⟩, ⟨.some 14, .none, .mv (.t 68)⟩])))))) (.seq (.rg false [⟨.some 77, .none, .mv (.t 13)⟩, ⟨.some 78, .none, .bin .geq (.t 77) (.c (.int .i64 0))⟩, ⟨.some 79, .none, .mv (.t 78)⟩, ⟨.some 80, .some (79, true), .mv (.t 13)⟩, ⟨.some 81, .some (79, true), .fa 2 (.t 10)⟩, ⟨.some 82, .some (79, true), .ld .none (.t 81)⟩, ⟨.some 83, .some (79, true), .lenL (.t 82)⟩, ⟨.some 84, .some (79, true), .bin .lss (.t 80) (.t 83)⟩, ⟨.some 85, .none, .pick (.t 79) (.t 84) (.c (.bool false))⟩, ⟨.some 86, .none, .mv (.t 85)⟩, ⟨.some 87, .some (86, true), .mv (.t 12)⟩, ⟨.some 88, .some (86, true), .bin .neq (.t 87) (.c (.int .i64 0))⟩, ⟨.some 89, .some (86, true), .mv (.t 88)⟩, ⟨.some 90, .some (89, false), .mv (.t 11)⟩, ⟨.some 91, .some (89, false), .fa 2 (.t 10)⟩, ⟨.some 92, .some (89, false), .ld .none (.t 91)⟩, ⟨.some 93, .some (89, false), .mv (.t 13)⟩, ⟨.some 94, .some (89, false), .ia 1 (.t 92) (.t 93)⟩, ⟨.some 95, .some (89, false), .ld .none (.t 94)⟩, ⟨.some 96, .some (89, false), .bin .neq (.t 90) (.t 95)⟩, ⟨.some 97, .some (86, true), .pick (.t 89) (.c (.bool true)) (.t 96)⟩, ⟨.some 98, .none, .pick (.t 86) (.t 97) (.c (.bool false))⟩, ⟨.some 99, .none, .mv (.t 98)⟩, ⟨.some 100, .some (99, false), .mv (.t 13)⟩, ⟨.some 101, .some (99, false), .bin .lss (.t 100) (.c (.int .i64 0))⟩, ⟨.some 102, .some (99, false), .mv (.t 101)⟩, ⟨.some 103, .some (102, false), .mv (.t 13)⟩, ⟨.some 104, .some (102, false), .fa 2 (.t 10)⟩, ⟨.some 105, .some (102, false), .ld .none (.t 104)⟩, ⟨.some 106, .some (102, false), .lenL (.t 105)⟩, ⟨.some 107, .some (102, false), .bin .geq (.t 103) (.t 106)⟩, ⟨.some 108, .some (99, false), .pick (.t 102) (.c (.bool true)) (.t 107)⟩, ⟨.some 109, .some (99, false), .mv (.t 108)⟩, ⟨.some 110, .some (109, true), .mv (.t 12)⟩, ⟨.some 111, .some (109, true), .bin .neq (.t 110) (.c (.int .i64 9))⟩, ⟨.some 112, .some (109, true), .mv (.t 111)⟩, ⟨.some 113, .some (112, false), .mv (.t 11)⟩, ⟨.some 114, .some (112, false), .bin .neq (.t 113) (.c (.string ⟨#[]⟩))⟩, ⟨.some 115, .some (109, true), .pick (.t 112) (.c (.bool true)) (.t 114)⟩, ⟨.some 116, .some (99, false), .pick (.t 109) (.t 115) (.c (.bool false))⟩, ⟨.some 117, .none, .pick (.t 99) (.c (.bool true)) (.t 116)⟩]) (.cond (.t 117) (.seq (.rg false [⟨.some 6, .none, .mv (.c (.bool false))⟩]) .ret) .skip))))))) (.rg false [⟨.some 118, .none, .bin .add (.t 51) (.c (.int .i64 1))⟩, ⟨.some 51, .none, .mv (.t 118)⟩]))))))) (.seq (.seq (.rg false [⟨.some 119, .none, .mv (.t 0)⟩, ⟨.some 120, .none, .call 10 .pure [.t 119]⟩, ⟨.some 121, .none, .un .not (.t 120)⟩]) (.cond (.t 121) (.seq (.rg false [⟨.some 122, .none, .mv (.t 8)⟩, ⟨.some 123, .none, .bin .eql (.t 122) (.c (.int .i64 1))⟩, ⟨.some 124, .none, .mv (.t 123)⟩, ⟨.some 125, .some (124, true), .mv (.t 7)⟩, ⟨.some 126, .some (124, true), .bin .eql (.t 125) (.c (.string ⟨#[]⟩))⟩, ⟨.some 127, .none, .pick (.t 124) (.t 126) (.c (.bool false))⟩, ⟨.some 6, .none, .mv (.t 127)⟩]) .ret) .skip)) (.seq (.rg false [⟨.some 128, .none, .mv (.t 0)⟩, ⟨.some 129, .none, .call 15 .pure [.t 128]⟩, ⟨.some 15, .none, .mv (.t 129)⟩]) (.seq (.seq (.rg false [⟨.some 130, .none, .mv (.t 15)⟩, ⟨.some 131, .none, .lenS (.t 130)⟩, ⟨.some 132, .none, .bin .gtr (.t 131) (.c (.int .i64 8192))⟩]) (.cond (.t 132) (.seq (.rg false [⟨.some 133, .none, .mv (.t 8)⟩, ⟨.some 134, .none, .bin .eql (.t 133) (.c (.int .i64 2))⟩, ⟨.some 135, .none, .mv (.t 134)⟩, ⟨.some 136, .some (135, true), .mv (.t 7)⟩, ⟨.some 137, .some (135, true), .bin .eql (.t 136) (.c (.string ⟨#[]⟩))⟩, ⟨.some 138, .none, .pick (.t 135) (.t 137) (.c (.bool false))⟩, ⟨.some 6, .none, .mv (.t 138)⟩]) .ret) .skip)) (.seq (.rg false [⟨.some 139, .none, .mv (.t 8)⟩, ⟨.some 140, .none, .bin .eql (.t 139) (.c (.int .i64 0))⟩, ⟨.some 141, .none, .mv (.t 140)⟩, ⟨.some 142, .some (141, true), .mv (.t 7)⟩, ⟨.some 143, .some (141, true), .mv (.t 15)⟩, ⟨.some 144, .some (141, true), .bin .eql (.t 142) (.t 143)⟩, ⟨.some 145, .none, .pick (.t 141) (.t 144) (.c (.bool false))⟩, ⟨.some 6, .none, .mv (.t 145)⟩]) .ret))))))))))
def ldl : List (Nat × Def) := [(1, d1)]
section
variable {env : Nat → Option Def} {fr : Fr} {σ σ' σ'' : St} {K : Fr → St → Prop} {Q : X → Fr → St → Prop} {p : PV} {bs : List UInt8}
theorem fewD_sm (d : Df) : (fewD d).Sm := by
  refine ⟨?_, ⟨?_, ?_⟩, ⟨?_, ?_⟩⟩
  · show (d.ty.take 70).length ≤ _
    rw [List.length_take]; omega
  · show ((d.ks.take 66).map (List.take 70)).length ≤ _
    rw [List.length_map, List.length_take]; omega
  · intro k hk
    obtain ⟨x, _, rfl⟩ := List.mem_map.1 (show k ∈ (d.ks.take 66).map (List.take 70) from hk)
    show (x.take 70).length ≤ _
    rw [List.length_take]; omega
  · show ((d.vs.take 66).map (List.take 205)).length ≤ _
    rw [List.length_map, List.length_take]; omega
  · intro k hk
    obtain ⟨x, _, rfl⟩ := List.mem_map.1 (show k ∈ (d.vs.take 66).map (List.take 205) from hk)
    show (x.take 205).length ≤ _
    rw [List.length_take]; omega
theorem fewB_sms (l : List Df) : Sms (fewB l) := by
  refine ⟨?_, fun d hd => ?_⟩
  · unfold fewB; rw [List.length_map, List.length_take]; omega
  · obtain ⟨x, _, rfl⟩ := List.mem_map.1 (show d ∈ (l.take 66).map fewD from hd)
    exact fewD_sm x
/-- The first place of a key among those from i on, or -1. -/
def AtI (ks : List (List UInt8)) (k : List UInt8) (i : Nat) (a : Int) : Prop :=
  (a = -1 ∧ ∀ j, i ≤ j → j < ks.length → (ks[j]? == some k) = false) ∨ ∃ n : Nat, a = n ∧ i ≤ n ∧ n < ks.length ∧ (ks[n]? == some k) = true ∧ ∀ j, i ≤ j → j < n → (ks[j]? == some k) = false
theorem AtI.end_ (ks : List (List UInt8)) (k : List UInt8) : AtI ks k ks.length (-1) := .inl ⟨rfl, fun j h1 h2 => by omega⟩
theorem AtI.hit {ks : List (List UInt8)} {k : List UInt8} {i : Nat} (hi : i < ks.length) (h : (ks[i]? == some k) = true) : AtI ks k i i := .inr ⟨i, rfl, Nat.le_refl _, hi, h, fun j h1 h2 => by omega⟩
theorem AtI.miss {ks : List (List UInt8)} {k : List UInt8} {i : Nat} {a : Int} (h : (ks[i]? == some k) = false) (ha : AtI ks k (i + 1) a) : AtI ks k i a := by
  rcases ha with ⟨h1, h2⟩ | ⟨n, h1, h2, h3, h4, h5⟩
  · refine .inl ⟨h1, fun j h3 h4 => ?_⟩
    by_cases hj : j = i
    · rw [hj]; exact h
    · exact h2 j (by omega) h4
  · refine .inr ⟨n, h1, by omega, h3, h4, fun j h6 h7 => ?_⟩
    by_cases hj : j = i
    · rw [hj]; exact h
    · exact h5 j (by omega) h7
theorem AtI.idx {ks : List (List UInt8)} {k : List UInt8} {a : Int} (h : AtI ks k 0 a) : a = idxT ks k := by
  unfold idxT
  rcases h with ⟨h1, h2⟩ | ⟨n, h1, _, h3, h4, h5⟩
  · rw [h1, found_none (p := fun i => ks[i]? == some k) fun j hj => h2 j (Nat.zero_le _) hj]
  · rw [h1, found_hit (p := fun i => ks[i]? == some k) h3 (fun j hj => h5 j (Nat.zero_le _) hj) h4]
theorem a1 (A : Has law env) (Da : Has lda env) (B : Has ldb env) (C : Has ldc env) (Dd : Has ldd env) (De : Has lde env) (Le : Has lle env) (F : Has ldf env) (G : Has ldg env) (Hh : Has ldh env) (I : Has ldi env) (W : Has lbw env) (S : Has lbs env) (N : Has lbl env) (J : Has ldj env) (Kk : Has ldk env) (La : Has ldl env)
    (hal : AV env 13 [] = some (.sc (.bool true))) {l m : List Df} (hl : l.length ≤ 9223372036854775807) (hm : m.length ≤ 9223372036854775807) (key : List UInt8) : AV env 1 [.sl (dfs l), .sl (dfs m), txt key] = some (.sc (.bool true)) := by
  have g1 := a7 Kk hl
  have g2 := a7 Kk hm
  have s1 := fewB_sms l
  have s2 := fewB_sms m
  generalize fewB l = l at *
  generalize fewB m = m at *
  have h8 := a8 A Da B C W S N J s1
  have h9 := a9 A Da B C s1
  have h10 := a10 Le F Hh s1
  have h11 := a11 Dd (b := m) s1
  have h12 := a12 G (b := m) s1
  have h13 := a11 Dd (b := l) s1
  rw [decide_eq_true (rfl : l = l)] at h13
  have hln := dfs_len l
  refine AV_wp (La (1, d1) (by simp [ldl])) rfl ?_
  (repeat' first
    | refine w_seq ?_ | refine w_rg ?_ | refine wo_nil ?_ | refine g_skU ?_
    | ((first | apply s_plain | apply s_void | apply s_guard); · simp only [go_sem, Nat.reduceEqDiff, Nat.reduceAdd, Nat.reduceLeDiff, g1, g2, h8, h9, h10, h11, h12, h13, hal, bne_self_eq_false, beq_self_eq_true, Bool.or_self]; (first | done | rfl))
    | ((first | apply g_T | apply g_F); · intro hb; simp only [go_sem, Nat.reduceEqDiff, Nat.reduceAdd, Nat.reduceLeDiff, g1, g2, h8, h9, h10, h11, h12, h13, hal, bne_self_eq_false, beq_self_eq_true, Bool.or_self, hb]; (first | done | rfl))
    | ((first | apply g_gT | apply g_gF); · intro hb hc; simp only [go_sem, Nat.reduceEqDiff, Nat.reduceAdd, Nat.reduceLeDiff, g1, g2, h8, h9, h10, h11, h12, h13, hal, bne_self_eq_false, beq_self_eq_true, Bool.or_self, hb, hc]; (first | done | rfl))
    | refine g_skT ?_ | refine g_skF ?_
    | ((first | apply g_goT | apply g_goF); · simp only [go_sem, Nat.reduceEqDiff, Nat.reduceAdd, Nat.reduceLeDiff, g1, g2, h8, h9, h10, h11, h12, h13, hal, bne_self_eq_false, beq_self_eq_true, Bool.or_self]; (first | done | rfl))
    | (refine w_condT ?_ ?_; · simp only [go_sem, Nat.reduceEqDiff, Nat.reduceAdd, Nat.reduceLeDiff, g1, g2, h8, h9, h10, h11, h12, h13, hal, bne_self_eq_false, beq_self_eq_true, Bool.or_self]; (first | done | rfl))
    | (refine w_condF ?_ ?_; · simp only [go_sem, Nat.reduceEqDiff, Nat.reduceAdd, Nat.reduceLeDiff, g1, g2, h8, h9, h10, h11, h12, h13, hal, bne_self_eq_false, beq_self_eq_true, Bool.or_self]; (first | done | rfl))
    | refine w_skip ?_ | refine w_exit ?_ | refine w_ret ?_
    | fail
    )
  (repeat' first
    | refine w_seq ?_ | refine w_rg ?_ | refine wo_nil ?_ | refine g_skU ?_
    | ((first | apply s_plain | apply s_void | apply s_guard); · simp only [go_sem, Nat.reduceEqDiff, Nat.reduceAdd, Nat.reduceLeDiff, hln]; (first | done | rfl))
    | ((first | apply g_T | apply g_F); · intro hb; simp only [go_sem, Nat.reduceEqDiff, Nat.reduceAdd, Nat.reduceLeDiff, hln, hb]; (first | done | rfl))
    | ((first | apply g_gT | apply g_gF); · intro hb hc; simp only [go_sem, Nat.reduceEqDiff, Nat.reduceAdd, Nat.reduceLeDiff, hln, hb, hc]; (first | done | rfl))
    | refine g_skT ?_ | refine g_skF ?_
    | ((first | apply g_goT | apply g_goF); · simp only [go_sem, Nat.reduceEqDiff, Nat.reduceAdd, Nat.reduceLeDiff, hln]; (first | done | rfl))
    | fail
    )
  refine w_block (w_rangeF (tc := 52) (ti := 51) (tn := 50) (tk := 118) l.length (by have := s1.1; omega) (fun i fr σ => True) ⟨by decide, rfl, rfl⟩ (fun _ _ _ _ h => ⟨h, h, h⟩) trivial (by simp only [go_sem, Nat.reduceEqDiff, Nat.reduceAdd, Nat.reduceLeDiff]; first | done | rfl) (by simp only [go_sem, Nat.reduceEqDiff, Nat.reduceAdd, Nat.reduceLeDiff, hln]; first | done | rfl) ?_ ?_)
  · rintro i fr1 σ1 hi - hti hfr
    have f0_2 := hfr 2 rfl; have f0_49 := hfr 49 rfl; have f0_50 := hfr 50 rfl; try (simp only [go_sem, Nat.reduceEqDiff, Nat.reduceAdd, Nat.reduceLeDiff] at f0_2); try (simp only [go_sem, Nat.reduceEqDiff, Nat.reduceAdd, Nat.reduceLeDiff] at f0_49); try (simp only [go_sem, Nat.reduceEqDiff, Nat.reduceAdd, Nat.reduceLeDiff] at f0_50)
    have hqd := List.getElem?_eq_getElem hi
    have hx := dfs_at hqd
    have sm := s1.2 _ (List.getElem_mem hi)
    have e1 : (0 : Int) ≤ (i : Int) ∧ (i : Int) < (l.length : Int) := by omega
    generalize hd : l[i] = d at hx sm
    have h14 := a14 B De sm key
    have hll := txts_len d.ks
    have hlv := txts_len d.vs
    have hkn := sm.ks.1
    have hvn := sm.vs.1
    have w0 : IntKind.i64.wrap ((d.ks.length : Int) - 1) = (d.ks.length : Int) - 1 := by rw [IntKind.wrap_i64]; omega
    unfold df at hx h14
    refine w_block ?_
    (repeat' first
    | refine w_seq ?_ | refine w_rg ?_ | refine wo_nil ?_ | refine g_skU ?_
    | ((first | apply s_plain | apply s_void | apply s_guard); · simp only [go_sem, Nat.reduceEqDiff, Nat.reduceAdd, Nat.reduceLeDiff, f0_2, f0_49, f0_50, hti, e1, hln, Int.toNat_natCast, hx, h14, hll, w0, splice, fillP, fillE, List.modify_zero_cons, List.replicate_succ, List.replicate_zero, List.set_cons_zero, List.drop_zero]; (first | done | rfl))
    | ((first | apply g_T | apply g_F); · intro hb; simp only [go_sem, Nat.reduceEqDiff, Nat.reduceAdd, Nat.reduceLeDiff, f0_2, f0_49, f0_50, hti, e1, hln, Int.toNat_natCast, hx, h14, hll, w0, splice, fillP, fillE, List.modify_zero_cons, List.replicate_succ, List.replicate_zero, List.set_cons_zero, List.drop_zero, hb]; (first | done | rfl))
    | ((first | apply g_gT | apply g_gF); · intro hb hc; simp only [go_sem, Nat.reduceEqDiff, Nat.reduceAdd, Nat.reduceLeDiff, f0_2, f0_49, f0_50, hti, e1, hln, Int.toNat_natCast, hx, h14, hll, w0, splice, fillP, fillE, List.modify_zero_cons, List.replicate_succ, List.replicate_zero, List.set_cons_zero, List.drop_zero, hb, hc]; (first | done | rfl))
    | refine g_skT ?_ | refine g_skF ?_
    | ((first | apply g_goT | apply g_goF); · simp only [go_sem, Nat.reduceEqDiff, Nat.reduceAdd, Nat.reduceLeDiff, f0_2, f0_49, f0_50, hti, e1, hln, Int.toNat_natCast, hx, h14, hll, w0, splice, fillP, fillE, List.modify_zero_cons, List.replicate_succ, List.replicate_zero, List.set_cons_zero, List.drop_zero]; (first | done | rfl))
    | fail
    )
    refine w_block (w_loopF (fun n fr σ => ∃ a : Int, n ≤ d.ks.length ∧ fr 14 = .sc (.int .i64 ((n : Int) - 1)) ∧ fr 13 = .sc (.int .i64 a) ∧ AtI d.ks key n a ∧ σ.m 2000010 (σ1.c 2000010) = some ⟨3, [df d], true, true⟩) ?_ d.ks.length ?_)
    · rintro n fr2 σ2 ⟨a, hn, f14, f13, hat, hm2⟩ hfr
      have e1_0 := hfr 0 rfl; have e1_2 := hfr 2 rfl; have e1_6 := hfr 6 rfl; have e1_7 := hfr 7 rfl; have e1_8 := hfr 8 rfl; have e1_10 := hfr 10 rfl; have e1_11 := hfr 11 rfl; have e1_12 := hfr 12 rfl; have e1_49 := hfr 49 rfl; have e1_50 := hfr 50 rfl; have e1_51 := hfr 51 rfl; have e1_52 := hfr 52 rfl; have e1_53 := hfr 53 rfl; have e1_54 := hfr 54 rfl; have e1_55 := hfr 55 rfl; have e1_56 := hfr 56 rfl; have e1_57 := hfr 57 rfl; have e1_58 := hfr 58 rfl; have e1_59 := hfr 59 rfl; have e1_60 := hfr 60 rfl; have e1_61 := hfr 61 rfl; have e1_62 := hfr 62 rfl; have e1_63 := hfr 63 rfl; have e1_64 := hfr 64 rfl; try (simp only [go_sem, Nat.reduceEqDiff, Nat.reduceAdd, Nat.reduceLeDiff] at e1_0); try (simp only [go_sem, Nat.reduceEqDiff, Nat.reduceAdd, Nat.reduceLeDiff] at e1_2); try (simp only [go_sem, Nat.reduceEqDiff, Nat.reduceAdd, Nat.reduceLeDiff] at e1_6); try (simp only [go_sem, Nat.reduceEqDiff, Nat.reduceAdd, Nat.reduceLeDiff] at e1_7); try (simp only [go_sem, Nat.reduceEqDiff, Nat.reduceAdd, Nat.reduceLeDiff] at e1_8); try (simp only [go_sem, Nat.reduceEqDiff, Nat.reduceAdd, Nat.reduceLeDiff] at e1_10); try (simp only [go_sem, Nat.reduceEqDiff, Nat.reduceAdd, Nat.reduceLeDiff] at e1_11); try (simp only [go_sem, Nat.reduceEqDiff, Nat.reduceAdd, Nat.reduceLeDiff] at e1_12); try (simp only [go_sem, Nat.reduceEqDiff, Nat.reduceAdd, Nat.reduceLeDiff] at e1_49); try (simp only [go_sem, Nat.reduceEqDiff, Nat.reduceAdd, Nat.reduceLeDiff] at e1_50); try (simp only [go_sem, Nat.reduceEqDiff, Nat.reduceAdd, Nat.reduceLeDiff] at e1_51); try (simp only [go_sem, Nat.reduceEqDiff, Nat.reduceAdd, Nat.reduceLeDiff] at e1_52); try (simp only [go_sem, Nat.reduceEqDiff, Nat.reduceAdd, Nat.reduceLeDiff] at e1_53); try (simp only [go_sem, Nat.reduceEqDiff, Nat.reduceAdd, Nat.reduceLeDiff] at e1_54); try (simp only [go_sem, Nat.reduceEqDiff, Nat.reduceAdd, Nat.reduceLeDiff] at e1_55); try (simp only [go_sem, Nat.reduceEqDiff, Nat.reduceAdd, Nat.reduceLeDiff] at e1_56); try (simp only [go_sem, Nat.reduceEqDiff, Nat.reduceAdd, Nat.reduceLeDiff] at e1_57); try (simp only [go_sem, Nat.reduceEqDiff, Nat.reduceAdd, Nat.reduceLeDiff] at e1_58); try (simp only [go_sem, Nat.reduceEqDiff, Nat.reduceAdd, Nat.reduceLeDiff] at e1_59); try (simp only [go_sem, Nat.reduceEqDiff, Nat.reduceAdd, Nat.reduceLeDiff] at e1_60); try (simp only [go_sem, Nat.reduceEqDiff, Nat.reduceAdd, Nat.reduceLeDiff] at e1_61); try (simp only [go_sem, Nat.reduceEqDiff, Nat.reduceAdd, Nat.reduceLeDiff] at e1_62); try (simp only [go_sem, Nat.reduceEqDiff, Nat.reduceAdd, Nat.reduceLeDiff] at e1_63); try (simp only [go_sem, Nat.reduceEqDiff, Nat.reduceAdd, Nat.reduceLeDiff] at e1_64)
      have z10 : fr2 10 = .bx 2000010 (σ1.c 2000010) 3 0 0 := by rw [hfr 10 rfl]; simp only [go_sem, Nat.reduceEqDiff, Nat.reduceAdd, Nat.reduceLeDiff]
      unfold df at hm2
      cases n with
      | zero =>
        have hg : decide (((0 : Nat) : Int) - 1 ≥ 0) = false := by decide
        (repeat' first
    | refine w_seq ?_ | refine w_rg ?_ | refine wo_nil ?_ | refine g_skU ?_
    | ((first | apply s_plain | apply s_void | apply s_guard); · simp only [go_sem, Nat.reduceEqDiff, Nat.reduceAdd, Nat.reduceLeDiff, e1_0, e1_2, e1_6, e1_7, e1_8, e1_10, e1_11, e1_12, e1_49, e1_50, e1_51, e1_52, e1_53, e1_54, e1_55, e1_56, e1_57, e1_58, e1_59, e1_60, e1_61, e1_62, e1_63, e1_64, f14, hg]; (first | done | rfl))
    | ((first | apply g_T | apply g_F); · intro hb; simp only [go_sem, Nat.reduceEqDiff, Nat.reduceAdd, Nat.reduceLeDiff, e1_0, e1_2, e1_6, e1_7, e1_8, e1_10, e1_11, e1_12, e1_49, e1_50, e1_51, e1_52, e1_53, e1_54, e1_55, e1_56, e1_57, e1_58, e1_59, e1_60, e1_61, e1_62, e1_63, e1_64, f14, hg, hb]; (first | done | rfl))
    | ((first | apply g_gT | apply g_gF); · intro hb hc; simp only [go_sem, Nat.reduceEqDiff, Nat.reduceAdd, Nat.reduceLeDiff, e1_0, e1_2, e1_6, e1_7, e1_8, e1_10, e1_11, e1_12, e1_49, e1_50, e1_51, e1_52, e1_53, e1_54, e1_55, e1_56, e1_57, e1_58, e1_59, e1_60, e1_61, e1_62, e1_63, e1_64, f14, hg, hb, hc]; (first | done | rfl))
    | refine g_skT ?_ | refine g_skF ?_
    | ((first | apply g_goT | apply g_goF); · simp only [go_sem, Nat.reduceEqDiff, Nat.reduceAdd, Nat.reduceLeDiff, e1_0, e1_2, e1_6, e1_7, e1_8, e1_10, e1_11, e1_12, e1_49, e1_50, e1_51, e1_52, e1_53, e1_54, e1_55, e1_56, e1_57, e1_58, e1_59, e1_60, e1_61, e1_62, e1_63, e1_64, f14, hg]; (first | done | rfl))
    | (refine w_condT ?_ ?_; · simp only [go_sem, Nat.reduceEqDiff, Nat.reduceAdd, Nat.reduceLeDiff, e1_0, e1_2, e1_6, e1_7, e1_8, e1_10, e1_11, e1_12, e1_49, e1_50, e1_51, e1_52, e1_53, e1_54, e1_55, e1_56, e1_57, e1_58, e1_59, e1_60, e1_61, e1_62, e1_63, e1_64, f14, hg]; (first | done | rfl))
    | (refine w_condF ?_ ?_; · simp only [go_sem, Nat.reduceEqDiff, Nat.reduceAdd, Nat.reduceLeDiff, e1_0, e1_2, e1_6, e1_7, e1_8, e1_10, e1_11, e1_12, e1_49, e1_50, e1_51, e1_52, e1_53, e1_54, e1_55, e1_56, e1_57, e1_58, e1_59, e1_60, e1_61, e1_62, e1_63, e1_64, f14, hg]; (first | done | rfl))
    | refine w_skip ?_ | refine w_exit ?_ | refine w_ret ?_
    | fail
    )
        try simp only [if_true]
        have hai := hat.idx
        subst hai
        by_cases hc : idxT d.ks key < 0 ∨ idxT d.ks key ≥ d.vs.length
        · have hg : getD d key = ([], 9) := by unfold getD; rw [if_pos hc]
          by_cases hc1 : idxT d.ks key < 0
          · have c1 : decide (idxT d.ks key ≥ 0) = false := by simpa using hc1
            have c2 : decide (idxT d.ks key < 0) = true := by simpa using hc1
            (repeat' first
    | refine w_seq ?_ | refine w_rg ?_ | refine wo_nil ?_ | refine g_skU ?_
    | ((first | apply s_plain | apply s_void | apply s_guard); · simp only [go_sem, Nat.reduceEqDiff, Nat.reduceAdd, Nat.reduceLeDiff, e1_0, e1_2, e1_6, e1_7, e1_8, e1_10, e1_11, e1_12, e1_49, e1_50, e1_51, e1_52, e1_53, e1_54, e1_55, e1_56, e1_57, e1_58, e1_59, e1_60, e1_61, e1_62, e1_63, e1_64, f13, z10, hm2, hlv, c1, c2, hg, ba_data, ba_size, ba_toList, ba_extract, ba_append, List.toList_toArray, bne_self_eq_false, beq_self_eq_true]; (first | done | rfl))
    | ((first | apply g_T | apply g_F); · intro hb; simp only [go_sem, Nat.reduceEqDiff, Nat.reduceAdd, Nat.reduceLeDiff, e1_0, e1_2, e1_6, e1_7, e1_8, e1_10, e1_11, e1_12, e1_49, e1_50, e1_51, e1_52, e1_53, e1_54, e1_55, e1_56, e1_57, e1_58, e1_59, e1_60, e1_61, e1_62, e1_63, e1_64, f13, z10, hm2, hlv, c1, c2, hg, ba_data, ba_size, ba_toList, ba_extract, ba_append, List.toList_toArray, bne_self_eq_false, beq_self_eq_true, hb]; (first | done | rfl))
    | ((first | apply g_gT | apply g_gF); · intro hb hc; simp only [go_sem, Nat.reduceEqDiff, Nat.reduceAdd, Nat.reduceLeDiff, e1_0, e1_2, e1_6, e1_7, e1_8, e1_10, e1_11, e1_12, e1_49, e1_50, e1_51, e1_52, e1_53, e1_54, e1_55, e1_56, e1_57, e1_58, e1_59, e1_60, e1_61, e1_62, e1_63, e1_64, f13, z10, hm2, hlv, c1, c2, hg, ba_data, ba_size, ba_toList, ba_extract, ba_append, List.toList_toArray, bne_self_eq_false, beq_self_eq_true, hb, hc]; (first | done | rfl))
    | refine g_skT ?_ | refine g_skF ?_
    | ((first | apply g_goT | apply g_goF); · simp only [go_sem, Nat.reduceEqDiff, Nat.reduceAdd, Nat.reduceLeDiff, e1_0, e1_2, e1_6, e1_7, e1_8, e1_10, e1_11, e1_12, e1_49, e1_50, e1_51, e1_52, e1_53, e1_54, e1_55, e1_56, e1_57, e1_58, e1_59, e1_60, e1_61, e1_62, e1_63, e1_64, f13, z10, hm2, hlv, c1, c2, hg, ba_data, ba_size, ba_toList, ba_extract, ba_append, List.toList_toArray, bne_self_eq_false, beq_self_eq_true]; (first | done | rfl))
    | (refine w_condT ?_ ?_; · simp only [go_sem, Nat.reduceEqDiff, Nat.reduceAdd, Nat.reduceLeDiff, e1_0, e1_2, e1_6, e1_7, e1_8, e1_10, e1_11, e1_12, e1_49, e1_50, e1_51, e1_52, e1_53, e1_54, e1_55, e1_56, e1_57, e1_58, e1_59, e1_60, e1_61, e1_62, e1_63, e1_64, f13, z10, hm2, hlv, c1, c2, hg, ba_data, ba_size, ba_toList, ba_extract, ba_append, List.toList_toArray, bne_self_eq_false, beq_self_eq_true]; (first | done | rfl))
    | (refine w_condF ?_ ?_; · simp only [go_sem, Nat.reduceEqDiff, Nat.reduceAdd, Nat.reduceLeDiff, e1_0, e1_2, e1_6, e1_7, e1_8, e1_10, e1_11, e1_12, e1_49, e1_50, e1_51, e1_52, e1_53, e1_54, e1_55, e1_56, e1_57, e1_58, e1_59, e1_60, e1_61, e1_62, e1_63, e1_64, f13, z10, hm2, hlv, c1, c2, hg, ba_data, ba_size, ba_toList, ba_extract, ba_append, List.toList_toArray, bne_self_eq_false, beq_self_eq_true]; (first | done | rfl))
    | refine w_skip ?_ | refine w_exit ?_ | refine w_ret ?_
    | fail
    )
            trivial
          · have hc2 : idxT d.ks key ≥ d.vs.length := by rcases hc with h | h; exact absurd h hc1; exact h
            have c1 : decide (idxT d.ks key ≥ 0) = true := by simp; omega
            have c2 : decide (idxT d.ks key < 0) = false := by simp; omega
            have c3 : decide (idxT d.ks key < (d.vs.length : Int)) = false := by simp; omega
            have c4 : decide (idxT d.ks key ≥ (d.vs.length : Int)) = true := by simp; omega
            (repeat' first
    | refine w_seq ?_ | refine w_rg ?_ | refine wo_nil ?_ | refine g_skU ?_
    | ((first | apply s_plain | apply s_void | apply s_guard); · simp only [go_sem, Nat.reduceEqDiff, Nat.reduceAdd, Nat.reduceLeDiff, e1_0, e1_2, e1_6, e1_7, e1_8, e1_10, e1_11, e1_12, e1_49, e1_50, e1_51, e1_52, e1_53, e1_54, e1_55, e1_56, e1_57, e1_58, e1_59, e1_60, e1_61, e1_62, e1_63, e1_64, f13, z10, hm2, hlv, c1, c2, c3, c4, hg, ba_data, ba_size, ba_toList, ba_extract, ba_append, List.toList_toArray, bne_self_eq_false, beq_self_eq_true]; (first | done | rfl))
    | ((first | apply g_T | apply g_F); · intro hb; simp only [go_sem, Nat.reduceEqDiff, Nat.reduceAdd, Nat.reduceLeDiff, e1_0, e1_2, e1_6, e1_7, e1_8, e1_10, e1_11, e1_12, e1_49, e1_50, e1_51, e1_52, e1_53, e1_54, e1_55, e1_56, e1_57, e1_58, e1_59, e1_60, e1_61, e1_62, e1_63, e1_64, f13, z10, hm2, hlv, c1, c2, c3, c4, hg, ba_data, ba_size, ba_toList, ba_extract, ba_append, List.toList_toArray, bne_self_eq_false, beq_self_eq_true, hb]; (first | done | rfl))
    | ((first | apply g_gT | apply g_gF); · intro hb hc; simp only [go_sem, Nat.reduceEqDiff, Nat.reduceAdd, Nat.reduceLeDiff, e1_0, e1_2, e1_6, e1_7, e1_8, e1_10, e1_11, e1_12, e1_49, e1_50, e1_51, e1_52, e1_53, e1_54, e1_55, e1_56, e1_57, e1_58, e1_59, e1_60, e1_61, e1_62, e1_63, e1_64, f13, z10, hm2, hlv, c1, c2, c3, c4, hg, ba_data, ba_size, ba_toList, ba_extract, ba_append, List.toList_toArray, bne_self_eq_false, beq_self_eq_true, hb, hc]; (first | done | rfl))
    | refine g_skT ?_ | refine g_skF ?_
    | ((first | apply g_goT | apply g_goF); · simp only [go_sem, Nat.reduceEqDiff, Nat.reduceAdd, Nat.reduceLeDiff, e1_0, e1_2, e1_6, e1_7, e1_8, e1_10, e1_11, e1_12, e1_49, e1_50, e1_51, e1_52, e1_53, e1_54, e1_55, e1_56, e1_57, e1_58, e1_59, e1_60, e1_61, e1_62, e1_63, e1_64, f13, z10, hm2, hlv, c1, c2, c3, c4, hg, ba_data, ba_size, ba_toList, ba_extract, ba_append, List.toList_toArray, bne_self_eq_false, beq_self_eq_true]; (first | done | rfl))
    | (refine w_condT ?_ ?_; · simp only [go_sem, Nat.reduceEqDiff, Nat.reduceAdd, Nat.reduceLeDiff, e1_0, e1_2, e1_6, e1_7, e1_8, e1_10, e1_11, e1_12, e1_49, e1_50, e1_51, e1_52, e1_53, e1_54, e1_55, e1_56, e1_57, e1_58, e1_59, e1_60, e1_61, e1_62, e1_63, e1_64, f13, z10, hm2, hlv, c1, c2, c3, c4, hg, ba_data, ba_size, ba_toList, ba_extract, ba_append, List.toList_toArray, bne_self_eq_false, beq_self_eq_true]; (first | done | rfl))
    | (refine w_condF ?_ ?_; · simp only [go_sem, Nat.reduceEqDiff, Nat.reduceAdd, Nat.reduceLeDiff, e1_0, e1_2, e1_6, e1_7, e1_8, e1_10, e1_11, e1_12, e1_49, e1_50, e1_51, e1_52, e1_53, e1_54, e1_55, e1_56, e1_57, e1_58, e1_59, e1_60, e1_61, e1_62, e1_63, e1_64, f13, z10, hm2, hlv, c1, c2, c3, c4, hg, ba_data, ba_size, ba_toList, ba_extract, ba_append, List.toList_toArray, bne_self_eq_false, beq_self_eq_true]; (first | done | rfl))
    | refine w_skip ?_ | refine w_exit ?_ | refine w_ret ?_
    | fail
    )
            trivial
        · have hg : getD d key = (d.vs.getD (idxT d.ks key).toNat [], 0) := by unfold getD; rw [if_neg hc]
          have c1 : decide (idxT d.ks key ≥ 0) = true := by simp; omega
          have c2 : decide (idxT d.ks key < 0) = false := by simp; omega
          have c3 : decide (idxT d.ks key < (d.vs.length : Int)) = true := by simp; omega
          have c4 : decide (idxT d.ks key ≥ (d.vs.length : Int)) = false := by simp; omega
          have f1 : (0 : Int) ≤ idxT d.ks key ∧ idxT d.ks key < (d.vs.length : Int) := by omega
          have hi2 : (idxT d.ks key).toNat < d.vs.length := by omega
          have hq := List.getElem?_eq_getElem hi2
          have hxv := txts_at hq
          have hgv : d.vs.getD (idxT d.ks key).toNat [] = d.vs[(idxT d.ks key).toNat] := by rw [List.getD_eq_getElem?_getD, hq]; rfl
          (repeat' first
    | refine w_seq ?_ | refine w_rg ?_ | refine wo_nil ?_ | refine g_skU ?_
    | ((first | apply s_plain | apply s_void | apply s_guard); · simp only [go_sem, Nat.reduceEqDiff, Nat.reduceAdd, Nat.reduceLeDiff, e1_0, e1_2, e1_6, e1_7, e1_8, e1_10, e1_11, e1_12, e1_49, e1_50, e1_51, e1_52, e1_53, e1_54, e1_55, e1_56, e1_57, e1_58, e1_59, e1_60, e1_61, e1_62, e1_63, e1_64, f13, z10, hm2, hlv, c1, c2, c3, c4, hg, hgv, f1, hxv, ba_data, ba_size, ba_toList, ba_extract, ba_append, List.toList_toArray, bne_self_eq_false, beq_self_eq_true]; (first | done | rfl))
    | ((first | apply g_T | apply g_F); · intro hb; simp only [go_sem, Nat.reduceEqDiff, Nat.reduceAdd, Nat.reduceLeDiff, e1_0, e1_2, e1_6, e1_7, e1_8, e1_10, e1_11, e1_12, e1_49, e1_50, e1_51, e1_52, e1_53, e1_54, e1_55, e1_56, e1_57, e1_58, e1_59, e1_60, e1_61, e1_62, e1_63, e1_64, f13, z10, hm2, hlv, c1, c2, c3, c4, hg, hgv, f1, hxv, ba_data, ba_size, ba_toList, ba_extract, ba_append, List.toList_toArray, bne_self_eq_false, beq_self_eq_true, hb]; (first | done | rfl))
    | ((first | apply g_gT | apply g_gF); · intro hb hc; simp only [go_sem, Nat.reduceEqDiff, Nat.reduceAdd, Nat.reduceLeDiff, e1_0, e1_2, e1_6, e1_7, e1_8, e1_10, e1_11, e1_12, e1_49, e1_50, e1_51, e1_52, e1_53, e1_54, e1_55, e1_56, e1_57, e1_58, e1_59, e1_60, e1_61, e1_62, e1_63, e1_64, f13, z10, hm2, hlv, c1, c2, c3, c4, hg, hgv, f1, hxv, ba_data, ba_size, ba_toList, ba_extract, ba_append, List.toList_toArray, bne_self_eq_false, beq_self_eq_true, hb, hc]; (first | done | rfl))
    | refine g_skT ?_ | refine g_skF ?_
    | ((first | apply g_goT | apply g_goF); · simp only [go_sem, Nat.reduceEqDiff, Nat.reduceAdd, Nat.reduceLeDiff, e1_0, e1_2, e1_6, e1_7, e1_8, e1_10, e1_11, e1_12, e1_49, e1_50, e1_51, e1_52, e1_53, e1_54, e1_55, e1_56, e1_57, e1_58, e1_59, e1_60, e1_61, e1_62, e1_63, e1_64, f13, z10, hm2, hlv, c1, c2, c3, c4, hg, hgv, f1, hxv, ba_data, ba_size, ba_toList, ba_extract, ba_append, List.toList_toArray, bne_self_eq_false, beq_self_eq_true]; (first | done | rfl))
    | (refine w_condT ?_ ?_; · simp only [go_sem, Nat.reduceEqDiff, Nat.reduceAdd, Nat.reduceLeDiff, e1_0, e1_2, e1_6, e1_7, e1_8, e1_10, e1_11, e1_12, e1_49, e1_50, e1_51, e1_52, e1_53, e1_54, e1_55, e1_56, e1_57, e1_58, e1_59, e1_60, e1_61, e1_62, e1_63, e1_64, f13, z10, hm2, hlv, c1, c2, c3, c4, hg, hgv, f1, hxv, ba_data, ba_size, ba_toList, ba_extract, ba_append, List.toList_toArray, bne_self_eq_false, beq_self_eq_true]; (first | done | rfl))
    | (refine w_condF ?_ ?_; · simp only [go_sem, Nat.reduceEqDiff, Nat.reduceAdd, Nat.reduceLeDiff, e1_0, e1_2, e1_6, e1_7, e1_8, e1_10, e1_11, e1_12, e1_49, e1_50, e1_51, e1_52, e1_53, e1_54, e1_55, e1_56, e1_57, e1_58, e1_59, e1_60, e1_61, e1_62, e1_63, e1_64, f13, z10, hm2, hlv, c1, c2, c3, c4, hg, hgv, f1, hxv, ba_data, ba_size, ba_toList, ba_extract, ba_append, List.toList_toArray, bne_self_eq_false, beq_self_eq_true]; (first | done | rfl))
    | refine w_skip ?_ | refine w_exit ?_ | refine w_ret ?_
    | fail
    )
          trivial
      | succ n =>
        have hg : decide (((n + 1 : Nat) : Int) - 1 ≥ 0) = true := by simp
        have hnn : ((n + 1 : Nat) : Int) - 1 = (n : Int) := by omega
        have hq := List.getElem?_eq_getElem (show n < d.ks.length by omega)
        have hxk := txts_at hq
        have f1 : (0 : Int) ≤ (n : Int) ∧ (n : Int) < (d.ks.length : Int) := by omega
        have w1 : IntKind.i64.wrap ((n : Int) - 1) = (n : Int) - 1 := by rw [IntKind.wrap_i64]; omega
        rw [hnn] at f14
        have hg : decide ((n : Int) ≥ 0) = true := by simp
        (repeat' first
    | refine w_seq ?_ | refine w_rg ?_ | refine wo_nil ?_ | refine g_skU ?_
    | ((first | apply s_plain | apply s_void | apply s_guard); · simp only [go_sem, Nat.reduceEqDiff, Nat.reduceAdd, Nat.reduceLeDiff, e1_0, e1_2, e1_6, e1_7, e1_8, e1_10, e1_11, e1_12, e1_49, e1_50, e1_51, e1_52, e1_53, e1_54, e1_55, e1_56, e1_57, e1_58, e1_59, e1_60, e1_61, e1_62, e1_63, e1_64, f14, hg]; (first | done | rfl))
    | ((first | apply g_T | apply g_F); · intro hb; simp only [go_sem, Nat.reduceEqDiff, Nat.reduceAdd, Nat.reduceLeDiff, e1_0, e1_2, e1_6, e1_7, e1_8, e1_10, e1_11, e1_12, e1_49, e1_50, e1_51, e1_52, e1_53, e1_54, e1_55, e1_56, e1_57, e1_58, e1_59, e1_60, e1_61, e1_62, e1_63, e1_64, f14, hg, hb]; (first | done | rfl))
    | ((first | apply g_gT | apply g_gF); · intro hb hc; simp only [go_sem, Nat.reduceEqDiff, Nat.reduceAdd, Nat.reduceLeDiff, e1_0, e1_2, e1_6, e1_7, e1_8, e1_10, e1_11, e1_12, e1_49, e1_50, e1_51, e1_52, e1_53, e1_54, e1_55, e1_56, e1_57, e1_58, e1_59, e1_60, e1_61, e1_62, e1_63, e1_64, f14, hg, hb, hc]; (first | done | rfl))
    | refine g_skT ?_ | refine g_skF ?_
    | ((first | apply g_goT | apply g_goF); · simp only [go_sem, Nat.reduceEqDiff, Nat.reduceAdd, Nat.reduceLeDiff, e1_0, e1_2, e1_6, e1_7, e1_8, e1_10, e1_11, e1_12, e1_49, e1_50, e1_51, e1_52, e1_53, e1_54, e1_55, e1_56, e1_57, e1_58, e1_59, e1_60, e1_61, e1_62, e1_63, e1_64, f14, hg]; (first | done | rfl))
    | (refine w_condT ?_ ?_; · simp only [go_sem, Nat.reduceEqDiff, Nat.reduceAdd, Nat.reduceLeDiff, e1_0, e1_2, e1_6, e1_7, e1_8, e1_10, e1_11, e1_12, e1_49, e1_50, e1_51, e1_52, e1_53, e1_54, e1_55, e1_56, e1_57, e1_58, e1_59, e1_60, e1_61, e1_62, e1_63, e1_64, f14, hg]; (first | done | rfl))
    | (refine w_condF ?_ ?_; · simp only [go_sem, Nat.reduceEqDiff, Nat.reduceAdd, Nat.reduceLeDiff, e1_0, e1_2, e1_6, e1_7, e1_8, e1_10, e1_11, e1_12, e1_49, e1_50, e1_51, e1_52, e1_53, e1_54, e1_55, e1_56, e1_57, e1_58, e1_59, e1_60, e1_61, e1_62, e1_63, e1_64, f14, hg]; (first | done | rfl))
    | refine w_skip ?_ | refine w_exit ?_ | refine w_ret ?_
    | fail
    )
        refine w_block ?_
        (repeat' first
    | refine w_seq ?_ | refine w_rg ?_ | refine wo_nil ?_ | refine g_skU ?_
    | ((first | apply s_plain | apply s_void | apply s_guard); · simp only [go_sem, Nat.reduceEqDiff, Nat.reduceAdd, Nat.reduceLeDiff, e1_0, e1_2, e1_6, e1_7, e1_8, e1_10, e1_11, e1_12, e1_49, e1_50, e1_51, e1_52, e1_53, e1_54, e1_55, e1_56, e1_57, e1_58, e1_59, e1_60, e1_61, e1_62, e1_63, e1_64, f0_2, f0_49, f0_50, f14, z10, hm2, f1, hll, Int.toNat_natCast, hxk, ba_data, ba_size, ba_toList, ba_extract, ba_append, List.toList_toArray]; (first | done | rfl))
    | ((first | apply g_T | apply g_F); · intro hb; simp only [go_sem, Nat.reduceEqDiff, Nat.reduceAdd, Nat.reduceLeDiff, e1_0, e1_2, e1_6, e1_7, e1_8, e1_10, e1_11, e1_12, e1_49, e1_50, e1_51, e1_52, e1_53, e1_54, e1_55, e1_56, e1_57, e1_58, e1_59, e1_60, e1_61, e1_62, e1_63, e1_64, f0_2, f0_49, f0_50, f14, z10, hm2, f1, hll, Int.toNat_natCast, hxk, ba_data, ba_size, ba_toList, ba_extract, ba_append, List.toList_toArray, hb]; (first | done | rfl))
    | ((first | apply g_gT | apply g_gF); · intro hb hc; simp only [go_sem, Nat.reduceEqDiff, Nat.reduceAdd, Nat.reduceLeDiff, e1_0, e1_2, e1_6, e1_7, e1_8, e1_10, e1_11, e1_12, e1_49, e1_50, e1_51, e1_52, e1_53, e1_54, e1_55, e1_56, e1_57, e1_58, e1_59, e1_60, e1_61, e1_62, e1_63, e1_64, f0_2, f0_49, f0_50, f14, z10, hm2, f1, hll, Int.toNat_natCast, hxk, ba_data, ba_size, ba_toList, ba_extract, ba_append, List.toList_toArray, hb, hc]; (first | done | rfl))
    | refine g_skT ?_ | refine g_skF ?_
    | ((first | apply g_goT | apply g_goF); · simp only [go_sem, Nat.reduceEqDiff, Nat.reduceAdd, Nat.reduceLeDiff, e1_0, e1_2, e1_6, e1_7, e1_8, e1_10, e1_11, e1_12, e1_49, e1_50, e1_51, e1_52, e1_53, e1_54, e1_55, e1_56, e1_57, e1_58, e1_59, e1_60, e1_61, e1_62, e1_63, e1_64, f0_2, f0_49, f0_50, f14, z10, hm2, f1, hll, Int.toNat_natCast, hxk, ba_data, ba_size, ba_toList, ba_extract, ba_append, List.toList_toArray]; (first | done | rfl))
    | fail
    )
        have hb : (d.ks[n] == key) = (d.ks[n]? == some key) := by rw [hq, Bool.eq_iff_iff, beq_iff_eq, beq_iff_eq, Option.some.injEq]
        cases hpi : (d.ks[n]? == some key) with
        | true =>
          rw [hpi] at hb
          (repeat' first
    | refine w_seq ?_ | refine w_rg ?_ | refine wo_nil ?_ | refine g_skU ?_
    | ((first | apply s_plain | apply s_void | apply s_guard); · simp only [go_sem, Nat.reduceEqDiff, Nat.reduceAdd, Nat.reduceLeDiff, hb, f14, w1]; (first | done | rfl))
    | ((first | apply g_T | apply g_F); · intro hb; simp only [go_sem, Nat.reduceEqDiff, Nat.reduceAdd, Nat.reduceLeDiff, hb, f14, w1, hb]; (first | done | rfl))
    | ((first | apply g_gT | apply g_gF); · intro hb hc; simp only [go_sem, Nat.reduceEqDiff, Nat.reduceAdd, Nat.reduceLeDiff, hb, f14, w1, hb, hc]; (first | done | rfl))
    | refine g_skT ?_ | refine g_skF ?_
    | ((first | apply g_goT | apply g_goF); · simp only [go_sem, Nat.reduceEqDiff, Nat.reduceAdd, Nat.reduceLeDiff, hb, f14, w1]; (first | done | rfl))
    | (refine w_condT ?_ ?_; · simp only [go_sem, Nat.reduceEqDiff, Nat.reduceAdd, Nat.reduceLeDiff, hb, f14, w1]; (first | done | rfl))
    | (refine w_condF ?_ ?_; · simp only [go_sem, Nat.reduceEqDiff, Nat.reduceAdd, Nat.reduceLeDiff, hb, f14, w1]; (first | done | rfl))
    | refine w_skip ?_ | refine w_exit ?_ | refine w_ret ?_
    | fail
    )
          exact ⟨n, Nat.lt_succ_self _, n, by omega, by simp only [go_sem, Nat.reduceEqDiff, Nat.reduceAdd, Nat.reduceLeDiff], by simp only [go_sem, Nat.reduceEqDiff, Nat.reduceAdd, Nat.reduceLeDiff], AtI.hit (by omega) hpi, by simp only [go_sem, Nat.reduceEqDiff, Nat.reduceAdd, Nat.reduceLeDiff, hm2, df]⟩
        | false =>
          rw [hpi] at hb
          (repeat' first
    | refine w_seq ?_ | refine w_rg ?_ | refine wo_nil ?_ | refine g_skU ?_
    | ((first | apply s_plain | apply s_void | apply s_guard); · simp only [go_sem, Nat.reduceEqDiff, Nat.reduceAdd, Nat.reduceLeDiff, hb, f14, w1]; (first | done | rfl))
    | ((first | apply g_T | apply g_F); · intro hb; simp only [go_sem, Nat.reduceEqDiff, Nat.reduceAdd, Nat.reduceLeDiff, hb, f14, w1, hb]; (first | done | rfl))
    | ((first | apply g_gT | apply g_gF); · intro hb hc; simp only [go_sem, Nat.reduceEqDiff, Nat.reduceAdd, Nat.reduceLeDiff, hb, f14, w1, hb, hc]; (first | done | rfl))
    | refine g_skT ?_ | refine g_skF ?_
    | ((first | apply g_goT | apply g_goF); · simp only [go_sem, Nat.reduceEqDiff, Nat.reduceAdd, Nat.reduceLeDiff, hb, f14, w1]; (first | done | rfl))
    | (refine w_condT ?_ ?_; · simp only [go_sem, Nat.reduceEqDiff, Nat.reduceAdd, Nat.reduceLeDiff, hb, f14, w1]; (first | done | rfl))
    | (refine w_condF ?_ ?_; · simp only [go_sem, Nat.reduceEqDiff, Nat.reduceAdd, Nat.reduceLeDiff, hb, f14, w1]; (first | done | rfl))
    | refine w_skip ?_ | refine w_exit ?_ | refine w_ret ?_
    | fail
    )
          exact ⟨n, Nat.lt_succ_self _, a, by omega, by simp only [go_sem, Nat.reduceEqDiff, Nat.reduceAdd, Nat.reduceLeDiff], by simp only [go_sem, Nat.reduceEqDiff, Nat.reduceAdd, Nat.reduceLeDiff, f13], AtI.miss hpi hat, by simp only [go_sem, Nat.reduceEqDiff, Nat.reduceAdd, Nat.reduceLeDiff, hm2, df]⟩
    · exact ⟨-1, Nat.le_refl _, by simp only [go_sem, Nat.reduceEqDiff, Nat.reduceAdd, Nat.reduceLeDiff], by simp only [go_sem, Nat.reduceEqDiff, Nat.reduceAdd, Nat.reduceLeDiff], AtI.end_ _ _, by simp only [go_sem, Nat.reduceEqDiff, Nat.reduceAdd, Nat.reduceLeDiff]; rfl⟩
  · rintro fr1 σ1 - hfr
    have e0_0 := hfr 0 rfl; have e0_7 := hfr 7 rfl; have e0_8 := hfr 8 rfl; try (simp only [go_sem, Nat.reduceEqDiff, Nat.reduceAdd, Nat.reduceLeDiff] at e0_0); try (simp only [go_sem, Nat.reduceEqDiff, Nat.reduceAdd, Nat.reduceLeDiff] at e0_7); try (simp only [go_sem, Nat.reduceEqDiff, Nat.reduceAdd, Nat.reduceLeDiff] at e0_8)
    try simp only [if_true]
    cases hr : rightD l with
    | false =>
      have hp : printD l = ([], 1) := by unfold printD; rw [hr]; rfl
      rw [hr] at h10
      (repeat' first
    | refine w_seq ?_ | refine w_rg ?_ | refine wo_nil ?_ | refine g_skU ?_
    | ((first | apply s_plain | apply s_void | apply s_guard); · simp only [go_sem, Nat.reduceEqDiff, Nat.reduceAdd, Nat.reduceLeDiff, e0_0, e0_7, e0_8, h10, hp, ba_data, ba_size, ba_toList, ba_extract, ba_append, List.toList_toArray, beq_self_eq_true]; (first | done | rfl))
    | ((first | apply g_T | apply g_F); · intro hb; simp only [go_sem, Nat.reduceEqDiff, Nat.reduceAdd, Nat.reduceLeDiff, e0_0, e0_7, e0_8, h10, hp, ba_data, ba_size, ba_toList, ba_extract, ba_append, List.toList_toArray, beq_self_eq_true, hb]; (first | done | rfl))
    | ((first | apply g_gT | apply g_gF); · intro hb hc; simp only [go_sem, Nat.reduceEqDiff, Nat.reduceAdd, Nat.reduceLeDiff, e0_0, e0_7, e0_8, h10, hp, ba_data, ba_size, ba_toList, ba_extract, ba_append, List.toList_toArray, beq_self_eq_true, hb, hc]; (first | done | rfl))
    | refine g_skT ?_ | refine g_skF ?_
    | ((first | apply g_goT | apply g_goF); · simp only [go_sem, Nat.reduceEqDiff, Nat.reduceAdd, Nat.reduceLeDiff, e0_0, e0_7, e0_8, h10, hp, ba_data, ba_size, ba_toList, ba_extract, ba_append, List.toList_toArray, beq_self_eq_true]; (first | done | rfl))
    | (refine w_condT ?_ ?_; · simp only [go_sem, Nat.reduceEqDiff, Nat.reduceAdd, Nat.reduceLeDiff, e0_0, e0_7, e0_8, h10, hp, ba_data, ba_size, ba_toList, ba_extract, ba_append, List.toList_toArray, beq_self_eq_true]; (first | done | rfl))
    | (refine w_condF ?_ ?_; · simp only [go_sem, Nat.reduceEqDiff, Nat.reduceAdd, Nat.reduceLeDiff, e0_0, e0_7, e0_8, h10, hp, ba_data, ba_size, ba_toList, ba_extract, ba_append, List.toList_toArray, beq_self_eq_true]; (first | done | rfl))
    | refine w_skip ?_ | refine w_exit ?_ | refine w_ret ?_
    | fail
    )
      exact ⟨by first | exact .inr rfl | exact .inr trivial | exact .inl rfl, by simp only [go_sem, Nat.reduceEqDiff, Nat.reduceAdd, Nat.reduceLeDiff, retOf, resOf]; first | done | rfl⟩
    | true =>
      rw [hr] at h10
      have h15 := a15 I hr
      by_cases hc : (textD l).length > 8192
      · have hd : decide (((textD l).length : Int) > 8192) = true := by simp; omega
        have hp : printD l = ([], 2) := by unfold printD; rw [hr, if_pos rfl, if_pos hc]
        (repeat' first
    | refine w_seq ?_ | refine w_rg ?_ | refine wo_nil ?_ | refine g_skU ?_
    | ((first | apply s_plain | apply s_void | apply s_guard); · simp only [go_sem, Nat.reduceEqDiff, Nat.reduceAdd, Nat.reduceLeDiff, e0_0, e0_7, e0_8, h10, h15, hd, hp, ba_data, ba_size, ba_toList, ba_extract, ba_append, List.toList_toArray, beq_self_eq_true]; (first | done | rfl))
    | ((first | apply g_T | apply g_F); · intro hb; simp only [go_sem, Nat.reduceEqDiff, Nat.reduceAdd, Nat.reduceLeDiff, e0_0, e0_7, e0_8, h10, h15, hd, hp, ba_data, ba_size, ba_toList, ba_extract, ba_append, List.toList_toArray, beq_self_eq_true, hb]; (first | done | rfl))
    | ((first | apply g_gT | apply g_gF); · intro hb hc; simp only [go_sem, Nat.reduceEqDiff, Nat.reduceAdd, Nat.reduceLeDiff, e0_0, e0_7, e0_8, h10, h15, hd, hp, ba_data, ba_size, ba_toList, ba_extract, ba_append, List.toList_toArray, beq_self_eq_true, hb, hc]; (first | done | rfl))
    | refine g_skT ?_ | refine g_skF ?_
    | ((first | apply g_goT | apply g_goF); · simp only [go_sem, Nat.reduceEqDiff, Nat.reduceAdd, Nat.reduceLeDiff, e0_0, e0_7, e0_8, h10, h15, hd, hp, ba_data, ba_size, ba_toList, ba_extract, ba_append, List.toList_toArray, beq_self_eq_true]; (first | done | rfl))
    | (refine w_condT ?_ ?_; · simp only [go_sem, Nat.reduceEqDiff, Nat.reduceAdd, Nat.reduceLeDiff, e0_0, e0_7, e0_8, h10, h15, hd, hp, ba_data, ba_size, ba_toList, ba_extract, ba_append, List.toList_toArray, beq_self_eq_true]; (first | done | rfl))
    | (refine w_condF ?_ ?_; · simp only [go_sem, Nat.reduceEqDiff, Nat.reduceAdd, Nat.reduceLeDiff, e0_0, e0_7, e0_8, h10, h15, hd, hp, ba_data, ba_size, ba_toList, ba_extract, ba_append, List.toList_toArray, beq_self_eq_true]; (first | done | rfl))
    | refine w_skip ?_ | refine w_exit ?_ | refine w_ret ?_
    | fail
    )
        exact ⟨by first | exact .inr rfl | exact .inr trivial | exact .inl rfl, by simp only [go_sem, Nat.reduceEqDiff, Nat.reduceAdd, Nat.reduceLeDiff, retOf, resOf]; first | done | rfl⟩
      · have hd : decide (((textD l).length : Int) > 8192) = false := by simp; omega
        have hp : printD l = (textD l, 0) := by unfold printD; rw [hr, if_pos rfl, if_neg hc]
        (repeat' first
    | refine w_seq ?_ | refine w_rg ?_ | refine wo_nil ?_ | refine g_skU ?_
    | ((first | apply s_plain | apply s_void | apply s_guard); · simp only [go_sem, Nat.reduceEqDiff, Nat.reduceAdd, Nat.reduceLeDiff, e0_0, e0_7, e0_8, h10, h15, hd, hp, ba_data, ba_size, ba_toList, ba_extract, ba_append, List.toList_toArray, beq_self_eq_true]; (first | done | rfl))
    | ((first | apply g_T | apply g_F); · intro hb; simp only [go_sem, Nat.reduceEqDiff, Nat.reduceAdd, Nat.reduceLeDiff, e0_0, e0_7, e0_8, h10, h15, hd, hp, ba_data, ba_size, ba_toList, ba_extract, ba_append, List.toList_toArray, beq_self_eq_true, hb]; (first | done | rfl))
    | ((first | apply g_gT | apply g_gF); · intro hb hc; simp only [go_sem, Nat.reduceEqDiff, Nat.reduceAdd, Nat.reduceLeDiff, e0_0, e0_7, e0_8, h10, h15, hd, hp, ba_data, ba_size, ba_toList, ba_extract, ba_append, List.toList_toArray, beq_self_eq_true, hb, hc]; (first | done | rfl))
    | refine g_skT ?_ | refine g_skF ?_
    | ((first | apply g_goT | apply g_goF); · simp only [go_sem, Nat.reduceEqDiff, Nat.reduceAdd, Nat.reduceLeDiff, e0_0, e0_7, e0_8, h10, h15, hd, hp, ba_data, ba_size, ba_toList, ba_extract, ba_append, List.toList_toArray, beq_self_eq_true]; (first | done | rfl))
    | (refine w_condT ?_ ?_; · simp only [go_sem, Nat.reduceEqDiff, Nat.reduceAdd, Nat.reduceLeDiff, e0_0, e0_7, e0_8, h10, h15, hd, hp, ba_data, ba_size, ba_toList, ba_extract, ba_append, List.toList_toArray, beq_self_eq_true]; (first | done | rfl))
    | (refine w_condF ?_ ?_; · simp only [go_sem, Nat.reduceEqDiff, Nat.reduceAdd, Nat.reduceLeDiff, e0_0, e0_7, e0_8, h10, h15, hd, hp, ba_data, ba_size, ba_toList, ba_extract, ba_append, List.toList_toArray, beq_self_eq_true]; (first | done | rfl))
    | refine w_skip ?_ | refine w_exit ?_ | refine w_ret ?_
    | fail
    )
        exact ⟨by first | exact .inr rfl | exact .inr trivial | exact .inl rfl, by simp only [go_sem, Nat.reduceEqDiff, Nat.reduceAdd, Nat.reduceLeDiff, retOf, resOf]; first | done | rfl⟩
end
end Go.Proofs.YtdlfomiclkpibaaDoorPv
