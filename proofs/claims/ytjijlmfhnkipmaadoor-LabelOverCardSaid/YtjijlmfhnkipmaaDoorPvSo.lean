/-
Sorting labels: the insertion that short rows are sorted by.
-/
import Derived.Test.YtjijlmfhnkipmaaDoorPvSn
import Derived.Test.YtjijlmfhnkipmaaDoorPvSj
import Derived.Test.YtjijlmfhnkipmaaDoorPvP
namespace Go.Proofs.YtjijlmfhnkipmaaDoorPv
open Go
set_option linter.unusedSimpArgs false
set_option linter.unusedVariables false
set_option maxHeartbeats 4000000
attribute [local go_sem ↓] e_mv e_pick e_bin e_eqs e_beq e_un e_cvi e_str e_s2b e_b2s e_box e_build e_bsl e_ld e_st e_nck e_mkf e_slcS e_slcL e_fa e_fld e_ia e_iaa e_ix e_ixa e_ext e_lenS e_lenL e_mnmx e_app e_msl e_clr e_call e_callv pa_t pa_c pa_f slcSP_str hiOf_some hiOf_none loOf_some loOf_none set_eq set_ne
attribute [local go_sem] pv pv1 simple frOf_0 frOf_1 frOf_2 frOf_3 frOf_4 frOf_5 ne_eq not_false_eq_true if_true Bool.false_eq_true if_false pbin punary Option.map_some Option.bind_some pick_and pick_or opt_true Bool.true_and Bool.and_self Bool.and_true Bool.true_or Bool.false_or Bool.not_true Bool.not_false callE pcall_eq List.map_cons List.map_nil List.append_nil List.nil_append List.cons_append mapM_cons' mapM_nil' dep_eq fz_sc fz_sl fz_em fz_fn fz_fp fz_agg fz_bx fz_ob Nat.lt_irrefl Nat.zero_lt_one Nat.lt_add_one flat clL cl Bool.or_true okc cells_agg cells_sc cells_sl cells_em cells_ob cells_fn cells_bx cells_fp List.length_cons List.length_nil Nat.zero_add and_self true_and and_true new_m new_c put_m put_c nil_m nil_c deref List.getElem?_cons_zero List.getElem?_cons_succ List.drop_zero List.drop_succ_cons List.take_succ_cons List.take_zero Nat.le_refl false_and and_false
set_option maxRecDepth 8000

/-- (transhipment/label.mark).compare -/
def d136 : Def := (.code 2 [.tmp 4] (.seq (.rg false [⟨.some 2, .none, .box (.t 0)⟩, ⟨.some 3, .none, .box (.t 1)⟩, ⟨.some 4, .none, .mv (.c (.int .i64 0))⟩]) (.seq (.rg false [⟨.some 5, .none, .fa 0 (.t 2)⟩, ⟨.some 6, .none, .ld .none (.t 5)⟩, ⟨.some 7, .none, .fa 0 (.t 3)⟩, ⟨.some 8, .none, .ld .none (.t 7)⟩, ⟨.some 9, .none, .call 142 .pure [.t 6, .t 8]⟩, ⟨.some 4, .none, .mv (.t 9)⟩]) .ret)))
/-- strings.Compare -/
def d142 : Def := (.code 2 [.tmp 4] (.seq (.rg false [⟨.some 4, .none, .mv (.c (.int .i64 0))⟩]) (.seq (.rg false [⟨.some 5, .none, .mv (.t 0)⟩, ⟨.some 6, .none, .mv (.t 1)⟩, ⟨.some 7, .none, .call 153 .pure [.t 5, .t 6]⟩, ⟨.some 4, .none, .mv (.t 7)⟩]) .ret)))
/-- slices.insertionSortCmpFunc[transhipment/label.mark] -/
def d143 : Def := (.code 4 [] (.seq (.rg false [⟨.some 10, .none, .mv (.t 1)⟩, ⟨.some 11, .none, .bin .add (.t 10) (.c (.int .i64 1))⟩, ⟨.some 8, .none, .mv (.t 11)⟩]) (.block 0 (.loop (.seq (.seq (.rg false [⟨.some 12, .none, .mv (.t 8)⟩, ⟨.some 13, .none, .mv (.t 2)⟩, ⟨.some 14, .none, .bin .lss (.t 12) (.t 13)⟩]) (.cond (.t 14) .skip (.exit 0))) (.seq (.block 1 (.seq (.rg false [⟨.some 17, .none, .mv (.t 8)⟩, ⟨.some 9, .none, .mv (.t 17)⟩]) (.block 2 (.loop (.seq (.seq (.rg true [⟨.some 18, .none, .mv (.t 9)⟩, ⟨.some 19, .none, .mv (.t 1)⟩, ⟨.some 20, .none, .bin .gtr (.t 18) (.t 19)⟩, ⟨.some 21, .none, .mv (.t 20)⟩, ⟨.some 22, .some (21, true), .mv (.t 3)⟩, ⟨.some 23, .some (21, true), .mv (.t 0)⟩, ⟨.some 24, .some (21, true), .mv (.t 9)⟩, ⟨.some 25, .some (21, true), .ia 2 (.t 23) (.t 24)⟩, ⟨.some 26, .some (21, true), .ld (.some 2) (.t 25)⟩, ⟨.some 27, .some (21, true), .mv (.t 0)⟩, ⟨.some 28, .some (21, true), .mv (.t 9)⟩, ⟨.some 29, .some (21, true), .bin .sub (.t 28) (.c (.int .i64 1))⟩, ⟨.some 30, .some (21, true), .ia 2 (.t 27) (.t 29)⟩, ⟨.some 31, .some (21, true), .ld (.some 2) (.t 30)⟩, ⟨.some 32, .some (21, true), .callv (.t 22) .strict [.t 26, .t 31]⟩, ⟨.some 33, .some (21, true), .bin .lss (.t 32) (.c (.int .i64 0))⟩, ⟨.some 34, .none, .pick (.t 21) (.t 33) (.c (.bool false))⟩]) (.cond (.t 34) .skip (.exit 2))) (.seq (.block 3 (.rg true [⟨.some 37, .none, .mv (.t 0)⟩, ⟨.some 38, .none, .mv (.t 9)⟩, ⟨.some 39, .none, .mv (.t 0)⟩, ⟨.some 40, .none, .mv (.t 9)⟩, ⟨.some 41, .none, .bin .sub (.t 40) (.c (.int .i64 1))⟩, ⟨.some 42, .none, .mv (.t 0)⟩, ⟨.some 43, .none, .mv (.t 9)⟩, ⟨.some 44, .none, .bin .sub (.t 43) (.c (.int .i64 1))⟩, ⟨.some 45, .none, .ia 2 (.t 42) (.t 44)⟩, ⟨.some 46, .none, .ld (.some 2) (.t 45)⟩, ⟨.some 47, .none, .mv (.t 0)⟩, ⟨.some 48, .none, .mv (.t 9)⟩, ⟨.some 49, .none, .ia 2 (.t 47) (.t 48)⟩, ⟨.some 50, .none, .ld (.some 2) (.t 49)⟩, ⟨.some 51, .none, .ia 2 (.t 37) (.t 38)⟩, ⟨.none, .none, .st 2 (.t 51) (.t 46)⟩, ⟨.some 52, .none, .ia 2 (.t 39) (.t 41)⟩, ⟨.none, .none, .st 2 (.t 52) (.t 50)⟩])) (.rg false [⟨.some 35, .none, .mv (.t 9)⟩, ⟨.some 36, .none, .bin .sub (.t 35) (.c (.int .i64 1))⟩, ⟨.some 9, .none, .mv (.t 36)⟩]))))))) (.rg false [⟨.some 15, .none, .mv (.t 8)⟩, ⟨.some 16, .none, .bin .add (.t 15) (.c (.int .i64 1))⟩, ⟨.some 8, .none, .mv (.t 16)⟩])))))))
/-- slices.pdqsortCmpFunc[transhipment/label.mark] -/
def d140 : Def := (.code 5 [] (.seq (.rg false [⟨.some 10, .none, .mv (.c (.bool true))⟩]) (.seq (.rg false [⟨.some 11, .none, .mv (.c (.bool true))⟩]) (.block 0 (.loop (.block 1 (.seq (.rg false [⟨.some 21, .none, .mv (.t 2)⟩, ⟨.some 22, .none, .mv (.t 1)⟩, ⟨.some 23, .none, .bin .sub (.t 21) (.t 22)⟩, ⟨.some 12, .none, .mv (.t 23)⟩]) (.seq (.seq (.rg false [⟨.some 24, .none, .mv (.t 12)⟩, ⟨.some 25, .none, .bin .leq (.t 24) (.c (.int .i64 12))⟩]) (.cond (.t 25) (.seq (.rg false [⟨.some 26, .none, .mv (.t 0)⟩, ⟨.some 27, .none, .mv (.t 1)⟩, ⟨.some 28, .none, .mv (.t 2)⟩, ⟨.some 29, .none, .mv (.t 4)⟩, ⟨.some 30, .none, .call 143 .opn [.t 26, .t 27, .t 28, .t 29]⟩]) .ret) .skip)) (.seq (.seq (.rg false [⟨.some 31, .none, .mv (.t 3)⟩, ⟨.some 32, .none, .bin .eql (.t 31) (.c (.int .i64 0))⟩]) (.cond (.t 32) (.seq (.rg false [⟨.some 33, .none, .mv (.t 0)⟩, ⟨.some 34, .none, .mv (.t 1)⟩, ⟨.some 35, .none, .mv (.t 2)⟩, ⟨.some 36, .none, .mv (.t 4)⟩, ⟨.some 37, .none, .call 144 .pure [.t 33, .t 34, .t 35, .t 36]⟩]) .ret) .skip)) (.seq (.seq (.rg false [⟨.some 38, .none, .mv (.t 10)⟩, ⟨.some 39, .none, .un .not (.t 38)⟩]) (.cond (.t 39) (.seq (.rg false [⟨.some 40, .none, .mv (.t 0)⟩, ⟨.some 41, .none, .mv (.t 1)⟩, ⟨.some 42, .none, .mv (.t 2)⟩, ⟨.some 43, .none, .mv (.t 4)⟩, ⟨.some 44, .none, .call 145 .pure [.t 40, .t 41, .t 42, .t 43]⟩]) (.rg false [⟨.some 45, .none, .mv (.t 3)⟩, ⟨.some 46, .none, .bin .sub (.t 45) (.c (.int .i64 1))⟩, ⟨.some 3, .none, .mv (.t 46)⟩])) .skip)) (.seq (.rg false [⟨.some 48, .none, .mv (.t 0)⟩, ⟨.some 49, .none, .mv (.t 1)⟩, ⟨.some 50, .none, .mv (.t 2)⟩, ⟨.some 51, .none, .mv (.t 4)⟩, ⟨.some 52, .none, .call 146 .pure [.t 48, .t 49, .t 50, .t 51]⟩, ⟨.some 47, .none, .mv (.t 52)⟩, ⟨.some 53, .none, .ext (.t 47) 0⟩, ⟨.some 54, .none, .ext (.t 47) 1⟩, ⟨.some 13, .none, .mv (.t 53)⟩, ⟨.some 14, .none, .mv (.t 54)⟩]) (.seq (.seq (.rg false [⟨.some 55, .none, .mv (.t 14)⟩, ⟨.some 56, .none, .bin .eql (.t 55) (.c (.int .i64 2))⟩]) (.cond (.t 56) (.seq (.rg false [⟨.some 57, .none, .mv (.t 0)⟩, ⟨.some 58, .none, .mv (.t 1)⟩, ⟨.some 59, .none, .mv (.t 2)⟩, ⟨.some 60, .none, .mv (.t 4)⟩, ⟨.some 61, .none, .call 147 .pure [.t 57, .t 58, .t 59, .t 60]⟩]) (.seq (.rg false [⟨.some 62, .none, .mv (.t 2)⟩, ⟨.some 63, .none, .bin .sub (.t 62) (.c (.int .i64 1))⟩, ⟨.some 64, .none, .mv (.t 13)⟩, ⟨.some 65, .none, .mv (.t 1)⟩, ⟨.some 66, .none, .bin .sub (.t 64) (.t 65)⟩, ⟨.some 67, .none, .bin .sub (.t 63) (.t 66)⟩, ⟨.some 13, .none, .mv (.t 67)⟩]) (.rg false [⟨.some 14, .none, .mv (.c (.int .i64 1))⟩]))) .skip)) (.seq (.seq (.rg false [⟨.some 68, .none, .mv (.t 10)⟩, ⟨.some 69, .none, .mv (.t 68)⟩, ⟨.some 70, .some (69, true), .mv (.t 11)⟩, ⟨.some 71, .none, .pick (.t 69) (.t 70) (.c (.bool false))⟩, ⟨.some 72, .none, .mv (.t 71)⟩, ⟨.some 73, .some (72, true), .mv (.t 14)⟩, ⟨.some 74, .some (72, true), .bin .eql (.t 73) (.c (.int .i64 1))⟩, ⟨.some 75, .none, .pick (.t 72) (.t 74) (.c (.bool false))⟩]) (.cond (.t 75) (.seq (.rg false [⟨.some 76, .none, .mv (.t 0)⟩, ⟨.some 77, .none, .mv (.t 1)⟩, ⟨.some 78, .none, .mv (.t 2)⟩, ⟨.some 79, .none, .mv (.t 4)⟩, ⟨.some 80, .none, .call 148 .pure [.t 76, .t 77, .t 78, .t 79]⟩]) (.cond (.t 80) .ret .skip)) .skip)) (.seq (.seq (.rg true [⟨.some 81, .none, .mv (.t 1)⟩, ⟨.some 82, .none, .bin .gtr (.t 81) (.c (.int .i64 0))⟩, ⟨.some 83, .none, .mv (.t 82)⟩, ⟨.some 84, .some (83, true), .mv (.t 4)⟩, ⟨.some 85, .some (83, true), .mv (.t 0)⟩, ⟨.some 86, .some (83, true), .mv (.t 1)⟩, ⟨.some 87, .some (83, true), .bin .sub (.t 86) (.c (.int .i64 1))⟩, ⟨.some 88, .some (83, true), .ia 2 (.t 85) (.t 87)⟩, ⟨.some 89, .some (83, true), .ld (.some 2) (.t 88)⟩, ⟨.some 90, .some (83, true), .mv (.t 0)⟩, ⟨.some 91, .some (83, true), .mv (.t 13)⟩, ⟨.some 92, .some (83, true), .ia 2 (.t 90) (.t 91)⟩, ⟨.some 93, .some (83, true), .ld (.some 2) (.t 92)⟩, ⟨.some 94, .some (83, true), .callv (.t 84) .strict [.t 89, .t 93]⟩, ⟨.some 95, .some (83, true), .bin .lss (.t 94) (.c (.int .i64 0))⟩, ⟨.some 96, .some (83, true), .un .not (.t 95)⟩, ⟨.some 97, .none, .pick (.t 83) (.t 96) (.c (.bool false))⟩]) (.cond (.t 97) (.seq (.rg false [⟨.some 98, .none, .mv (.t 0)⟩, ⟨.some 99, .none, .mv (.t 1)⟩, ⟨.some 100, .none, .mv (.t 2)⟩, ⟨.some 101, .none, .mv (.t 13)⟩, ⟨.some 102, .none, .mv (.t 4)⟩, ⟨.some 103, .none, .call 149 .pure [.t 98, .t 99, .t 100, .t 101, .t 102]⟩, ⟨.some 15, .none, .mv (.t 103)⟩]) (.seq (.rg false [⟨.some 104, .none, .mv (.t 15)⟩, ⟨.some 1, .none, .mv (.t 104)⟩]) (.exit 1))) .skip)) (.seq (.rg false [⟨.some 106, .none, .mv (.t 0)⟩, ⟨.some 107, .none, .mv (.t 1)⟩, ⟨.some 108, .none, .mv (.t 2)⟩, ⟨.some 109, .none, .mv (.t 13)⟩, ⟨.some 110, .none, .mv (.t 4)⟩, ⟨.some 111, .none, .call 150 .pure [.t 106, .t 107, .t 108, .t 109, .t 110]⟩, ⟨.some 105, .none, .mv (.t 111)⟩, ⟨.some 112, .none, .ext (.t 105) 0⟩, ⟨.some 113, .none, .ext (.t 105) 1⟩, ⟨.some 16, .none, .mv (.t 112)⟩, ⟨.some 17, .none, .mv (.t 113)⟩]) (.seq (.rg false [⟨.some 114, .none, .mv (.t 17)⟩, ⟨.some 11, .none, .mv (.t 114)⟩]) (.seq (.rg false [⟨.some 115, .none, .mv (.t 16)⟩, ⟨.some 116, .none, .mv (.t 1)⟩, ⟨.some 117, .none, .bin .sub (.t 115) (.t 116)⟩, ⟨.some 118, .none, .mv (.t 2)⟩, ⟨.some 119, .none, .mv (.t 16)⟩, ⟨.some 120, .none, .bin .sub (.t 118) (.t 119)⟩, ⟨.some 18, .none, .mv (.t 117)⟩, ⟨.some 19, .none, .mv (.t 120)⟩]) (.seq (.rg false [⟨.some 121, .none, .mv (.t 12)⟩, ⟨.some 122, .none, .bin .quo (.t 121) (.c (.int .i64 8))⟩, ⟨.some 20, .none, .mv (.t 122)⟩]) (.seq (.rg false [⟨.some 123, .none, .mv (.t 18)⟩, ⟨.some 124, .none, .mv (.t 19)⟩, ⟨.some 125, .none, .bin .lss (.t 123) (.t 124)⟩]) (.cond (.t 125) (.seq (.rg false [⟨.some 126, .none, .mv (.t 18)⟩, ⟨.some 127, .none, .mv (.t 20)⟩, ⟨.some 128, .none, .bin .geq (.t 126) (.t 127)⟩, ⟨.some 10, .none, .mv (.t 128)⟩]) (.seq (.rg false [⟨.some 129, .none, .mv (.t 0)⟩, ⟨.some 130, .none, .mv (.t 1)⟩, ⟨.some 131, .none, .mv (.t 16)⟩, ⟨.some 132, .none, .mv (.t 3)⟩, ⟨.some 133, .none, .mv (.t 4)⟩, ⟨.some 134, .none, .call 140 .opn [.t 129, .t 130, .t 131, .t 132, .t 133]⟩]) (.rg false [⟨.some 135, .none, .mv (.t 16)⟩, ⟨.some 136, .none, .bin .add (.t 135) (.c (.int .i64 1))⟩, ⟨.some 1, .none, .mv (.t 136)⟩]))) (.seq (.rg false [⟨.some 137, .none, .mv (.t 19)⟩, ⟨.some 138, .none, .mv (.t 20)⟩, ⟨.some 139, .none, .bin .geq (.t 137) (.t 138)⟩, ⟨.some 10, .none, .mv (.t 139)⟩]) (.seq (.rg false [⟨.some 140, .none, .mv (.t 0)⟩, ⟨.some 141, .none, .mv (.t 16)⟩, ⟨.some 142, .none, .bin .add (.t 141) (.c (.int .i64 1))⟩, ⟨.some 143, .none, .mv (.t 2)⟩, ⟨.some 144, .none, .mv (.t 3)⟩, ⟨.some 145, .none, .mv (.t 4)⟩, ⟨.some 146, .none, .call 140 .opn [.t 140, .t 142, .t 143, .t 144, .t 145]⟩]) (.rg false [⟨.some 147, .none, .mv (.t 16)⟩, ⟨.some 2, .none, .mv (.t 147)⟩])))))))))))))))))))))))
/-- slices.SortFunc[[]transhipment/label.mark,transhipment/label.mark] -/
def d135 : Def := (.code 2 [] (.seq (.rg false [⟨.some 5, .none, .mv (.t 0)⟩, ⟨.some 6, .none, .lenL (.t 5)⟩, ⟨.some 4, .none, .mv (.t 6)⟩]) (.rg false [⟨.some 7, .none, .mv (.t 0)⟩, ⟨.some 8, .none, .mv (.t 4)⟩, ⟨.some 9, .none, .mv (.t 4)⟩, ⟨.some 10, .none, .cvi .u64 (.t 9)⟩, ⟨.some 11, .none, .call 141 .pure [.t 10]⟩, ⟨.some 12, .none, .mv (.t 1)⟩, ⟨.some 13, .none, .call 140 .opn [.t 7, .c (.int .i64 0), .t 8, .t 11, .t 12]⟩])))

def lo : List (Nat × Def) := [(136, d136), (142, d142), (143, d143), (140, d140), (135, d135), (153, .prim cmpF)]

section
variable {env : Nat → Option Def} {fr : Fr} {σ : St} {K : Fr → St → Prop} {Q : X → Fr → St → Prop}

def cmpB (a b : ByteArray) : Int := Lib.compareBytes a.data.toList b.data.toList

theorem cmp_less : ∀ a b : List UInt8, decide (Lib.compareBytes a b < 0) = Op.bytesLess a b
  | [], [] => rfl
  | [], _ :: _ => rfl
  | _ :: _, [] => rfl
  | a :: x, b :: y => by
    have ih := cmp_less x y
    simp only [Lib.compareBytes, Op.bytesLess]
    by_cases h1 : a < b
    · simp [h1]
    · by_cases h2 : b < a
      · have h3 : a ≠ b := fun h => by rw [h] at h2; exact UInt8.lt_irrefl _ h2
        simp [h1, h2, h3]
      · have h3 : a = b := by
          rw [UInt8.lt_iff_toNat_lt] at h1 h2
          exact UInt8.toNat_inj.1 (by omega)
        subst h3
        simp [UInt8.lt_irrefl, ← ih]

theorem cmpB_less (a b : ByteArray) : decide (cmpB a b < 0) = lessB a b := by
  unfold cmpB lessB
  rw [ByteArray.toList_eq, ByteArray.toList_eq, cmp_less]

theorem a153 (O : Has lo env) (a b : ByteArray) : AV env 153 [.sc (.string a), .sc (.string b)] = some (.sc (.int .i64 (cmpB a b))) := by
  have h := O (153, .prim cmpF) (by simp [lo])
  refine AV_of (σ := St.nil) (r := .sc (.int .i64 (cmpB a b))) ?_ rfl
  exact EV_of (n := 1) (by simp only [evF, h]; rfl)

theorem a142 (O : Has lo env) (a b : ByteArray) : AV env 142 [.sc (.string a), .sc (.string b)] = some (.sc (.int .i64 (cmpB a b))) := by
  have h := a153 O a b
  refine AV_wp (O (142, d142) (by simp [lo])) rfl ?_
  (repeat' first
    | refine w_seq ?_
    | refine w_rg ?_
    | refine wo_nil ?_
    | refine s_plain (by simp only [go_sem, Nat.reduceEqDiff, Nat.reduceAdd, Nat.reduceLeDiff, h]; first | done | rfl) ?_
    | refine s_void (by simp only [go_sem, Nat.reduceEqDiff, Nat.reduceAdd, Nat.reduceLeDiff, h]; first | done | rfl) ?_
    | refine s_guard (by simp only [go_sem, Nat.reduceEqDiff, Nat.reduceAdd, Nat.reduceLeDiff, h]; first | done | rfl) ?_
    | refine g_skU ?_
    | refine g_T (by intro hb; simp only [go_sem, Nat.reduceEqDiff, Nat.reduceAdd, Nat.reduceLeDiff, h, hb]; first | done | rfl) ?_
    | refine g_F (by intro hb; simp only [go_sem, Nat.reduceEqDiff, Nat.reduceAdd, Nat.reduceLeDiff, h, hb]; first | done | rfl) ?_
    | refine g_gT (by intro hb hc; simp only [go_sem, Nat.reduceEqDiff, Nat.reduceAdd, Nat.reduceLeDiff, h, hb, hc]; first | done | rfl) ?_
    | refine g_gF (by intro hb hc; simp only [go_sem, Nat.reduceEqDiff, Nat.reduceAdd, Nat.reduceLeDiff, h, hb, hc]; first | done | rfl) ?_
    | refine g_skT ?_
    | refine g_skF ?_
    | refine g_goT (by simp only [go_sem, Nat.reduceEqDiff, Nat.reduceAdd, Nat.reduceLeDiff, h]; first | done | rfl) ?_
    | refine g_goF (by simp only [go_sem, Nat.reduceEqDiff, Nat.reduceAdd, Nat.reduceLeDiff, h]; first | done | rfl) ?_
    | refine w_condT (by simp only [go_sem, Nat.reduceEqDiff, Nat.reduceAdd, Nat.reduceLeDiff, h]; first | done | rfl) ?_
    | refine w_condF (by simp only [go_sem, Nat.reduceEqDiff, Nat.reduceAdd, Nat.reduceLeDiff, h]; first | done | rfl) ?_
    | refine w_skip ?_
    | refine w_exit ?_
    | refine w_ret ?_
    )
  exact ⟨.inr rfl, by simp only [go_sem, Nat.reduceEqDiff, Nat.reduceAdd, Nat.reduceLeDiff, retOf, resOf]⟩

theorem a136 (O : Has lo env) (x y : Lab) : AV env 136 [lab x, lab y] = some (.sc (.int .i64 (cmpB x.1 y.1))) := by
  have h := a142 O x.1 y.1
  refine AV_wp (O (136, d136) (by simp [lo])) rfl ?_
  unfold lab
  (repeat' first
    | refine w_seq ?_
    | refine w_rg ?_
    | refine wo_nil ?_
    | refine s_plain (by simp only [go_sem, Nat.reduceEqDiff, Nat.reduceAdd, Nat.reduceLeDiff, h]; first | done | rfl) ?_
    | refine s_void (by simp only [go_sem, Nat.reduceEqDiff, Nat.reduceAdd, Nat.reduceLeDiff, h]; first | done | rfl) ?_
    | refine s_guard (by simp only [go_sem, Nat.reduceEqDiff, Nat.reduceAdd, Nat.reduceLeDiff, h]; first | done | rfl) ?_
    | refine g_skU ?_
    | refine g_T (by intro hb; simp only [go_sem, Nat.reduceEqDiff, Nat.reduceAdd, Nat.reduceLeDiff, h, hb]; first | done | rfl) ?_
    | refine g_F (by intro hb; simp only [go_sem, Nat.reduceEqDiff, Nat.reduceAdd, Nat.reduceLeDiff, h, hb]; first | done | rfl) ?_
    | refine g_gT (by intro hb hc; simp only [go_sem, Nat.reduceEqDiff, Nat.reduceAdd, Nat.reduceLeDiff, h, hb, hc]; first | done | rfl) ?_
    | refine g_gF (by intro hb hc; simp only [go_sem, Nat.reduceEqDiff, Nat.reduceAdd, Nat.reduceLeDiff, h, hb, hc]; first | done | rfl) ?_
    | refine g_skT ?_
    | refine g_skF ?_
    | refine g_goT (by simp only [go_sem, Nat.reduceEqDiff, Nat.reduceAdd, Nat.reduceLeDiff, h]; first | done | rfl) ?_
    | refine g_goF (by simp only [go_sem, Nat.reduceEqDiff, Nat.reduceAdd, Nat.reduceLeDiff, h]; first | done | rfl) ?_
    | refine w_condT (by simp only [go_sem, Nat.reduceEqDiff, Nat.reduceAdd, Nat.reduceLeDiff, h]; first | done | rfl) ?_
    | refine w_condF (by simp only [go_sem, Nat.reduceEqDiff, Nat.reduceAdd, Nat.reduceLeDiff, h]; first | done | rfl) ?_
    | refine w_skip ?_
    | refine w_exit ?_
    | refine w_ret ?_
    )
  exact ⟨.inr rfl, by simp only [go_sem, Nat.reduceEqDiff, Nat.reduceAdd, Nat.reduceLeDiff, retOf, resOf]⟩

/-- m, put in among the first k of a, from the right. -/
def insAt (m : Lab) (a : List Lab) : Nat → List Lab
  | 0 => m :: a
  | k + 1 => if lessB m.1 (nth a k).1 then insAt m a k else a.take (k + 1) ++ m :: a.drop (k + 1)

def insR (a : List Lab) (m : Lab) : List Lab := insAt m a a.length
def sortedL (l : List Lab) : List Lab := l.foldl insR []

theorem insAt_len (m : Lab) (a : List Lab) : ∀ k, k ≤ a.length → (insAt m a k).length = a.length + 1
  | 0, _ => rfl
  | k + 1, h => by
    simp only [insAt]
    split
    · exact insAt_len m a k (by omega)
    · simp; omega

theorem insR_len (a : List Lab) (m : Lab) : (insR a m).length = a.length + 1 := insAt_len m a a.length (Nat.le_refl _)

theorem foldl_len : ∀ (l a : List Lab), (l.foldl insR a).length = a.length + l.length
  | [], a => rfl
  | m :: l, a => by simp only [List.foldl_cons, foldl_len l, insR_len, List.length_cons]; omega

theorem sortedL_len (l : List Lab) : (sortedL l).length = l.length := by simp [sortedL, foldl_len]

theorem sortedL_succ {l : List Lab} {i : Nat} (hi : i < l.length) : sortedL (l.take (i + 1)) = insR (sortedL (l.take i)) l[i] := by
  unfold sortedL
  rw [List.take_succ_eq_append_getElem hi, List.foldl_append]
  rfl

/-- The row while m goes down: m stands before place j of a. -/
def midL (a : List Lab) (m : Lab) (rest : List Lab) (j : Nat) : List Lab := a.take j ++ m :: (a.drop j ++ rest)

theorem midL_len (a : List Lab) (m : Lab) (rest : List Lab) (j : Nat) (hj : j ≤ a.length) : (midL a m rest j).length = a.length + 1 + rest.length := by
  simp [midL]; omega

theorem midL_at {a : List Lab} {m : Lab} {rest : List Lab} {j : Nat} (hj : j ≤ a.length) : (midL a m rest j)[j]? = some m := by
  unfold midL
  rw [List.getElem?_append_right (by simp; omega)]
  simp [Nat.min_eq_left hj]

theorem midL_before {a : List Lab} {m : Lab} {rest : List Lab} {j : Nat} (hj : j + 1 ≤ a.length) : (midL a m rest (j + 1))[j]? = some (nth a j) := by
  unfold midL
  rw [List.getElem?_append_left (by simp; omega), List.getElem?_take, if_pos (by omega), nth, List.getElem?_eq_getElem (show j < a.length by omega)]
  rfl

theorem midL_swap {a : List Lab} {m : Lab} {rest : List Lab} {j : Nat} (hj : j + 1 ≤ a.length) : ((midL a m rest (j + 1)).set (j + 1) (nth a j)).set j m = midL a m rest j := by
  have hx : a[j]? = some (nth a j) := by rw [nth, List.getElem?_eq_getElem (show j < a.length by omega)]; rfl
  have hp : a.take (j + 1) = a.take j ++ [nth a j] := by
    rw [List.take_add_one, hx]; rfl
  have hd : a.drop j = nth a j :: a.drop (j + 1) := by
    have := List.drop_eq_getElem_cons (l := a) (i := j) (by omega)
    rw [this]
    congr 1
    rw [List.getElem?_eq_getElem (show j < a.length by omega)] at hx
    exact Option.some.inj hx
  have hlen : (a.take j).length = j := by simp; omega
  unfold midL
  rw [hp, hd]
  have e1 : a.take j ++ [nth a j] ++ m :: (a.drop (j + 1) ++ rest) = a.take j ++ nth a j :: m :: (a.drop (j + 1) ++ rest) := by simp
  rw [e1]
  rw [List.set_append_right _ _ (by omega), List.set_append_right _ _ (by omega), hlen]
  simp

theorem labs_set (l : List Lab) (i : Nat) (m : Lab) : (labs l).set i (lab m) = labs (l.set i m) := by
  unfold labs; rw [List.map_set]

theorem modify_set {α : Type} (l : List α) (i : Nat) (v : α) : l.modify i (fun _ => v) = l.set i v := by
  induction l generalizing i with
  | nil => simp
  | cons x r ih =>
    cases i with
    | zero => simp
    | succ i => simp [ih]

theorem w_of {pc : PC} {Q' : X → Fr → St → Prop} (h : Wp env pc Q' fr σ) (hq : ∀ x fr σ, Q' x fr σ → Q x fr σ) : Wp env pc Q fr σ := h.mono hq

/-- What stands while m goes down. -/
structure Down (o g n i : Nat) (a : List Lab) (m : Lab) (rest : List Lab) (j : Nat) (fr : Fr) (σ : St) : Prop where
  le : j ≤ a.length
  f0 : fr 0 = .ob o g 2 0 n
  f1 : fr 1 = .sc (.int .i64 0)
  f2 : fr 2 = .sc (.int .i64 n)
  f3 : fr 3 = .fn 136 [] []
  f8 : fr 8 = .sc (.int .i64 i)
  f9 : fr 9 = .sc (.int .i64 j)
  mm : σ.m o g = some ⟨2, labs (midL a m rest j), true, true⟩
  ins : insAt m a a.length = insAt m a j

theorem a143 (O : Has lo env) {l : List Lab} (hn : l.length ≤ 1000000) {o g : Nat} (hm : σ.m o g = some ⟨2, labs l, true, true⟩) :
    ∃ r σ', EV env 143 [.ob o g 2 0 l.length, .sc (.int .i64 0), .sc (.int .i64 l.length), .fn 136 [] []] σ = some (r, σ') ∧ (r = .tu [] ∧ σ'.m o g = some ⟨2, labs (sortedL l), true, true⟩) := by
  refine EV_wp' (O (143, d143) (by simp [lo])) rfl ?_
  (repeat' first
    | refine w_seq ?_
    | refine w_rg ?_
    | refine wo_nil ?_
    | refine s_plain (by simp only [go_sem, Nat.reduceEqDiff, Nat.reduceAdd, Nat.reduceLeDiff]; first | done | rfl) ?_
    | refine s_void (by simp only [go_sem, Nat.reduceEqDiff, Nat.reduceAdd, Nat.reduceLeDiff]; first | done | rfl) ?_
    | refine s_guard (by simp only [go_sem, Nat.reduceEqDiff, Nat.reduceAdd, Nat.reduceLeDiff]; first | done | rfl) ?_
    | refine g_skU ?_
    | refine g_T (by intro hb; simp only [go_sem, Nat.reduceEqDiff, Nat.reduceAdd, Nat.reduceLeDiff, hb]; first | done | rfl) ?_
    | refine g_F (by intro hb; simp only [go_sem, Nat.reduceEqDiff, Nat.reduceAdd, Nat.reduceLeDiff, hb]; first | done | rfl) ?_
    | refine g_gT (by intro hb hc; simp only [go_sem, Nat.reduceEqDiff, Nat.reduceAdd, Nat.reduceLeDiff, hb, hc]; first | done | rfl) ?_
    | refine g_gF (by intro hb hc; simp only [go_sem, Nat.reduceEqDiff, Nat.reduceAdd, Nat.reduceLeDiff, hb, hc]; first | done | rfl) ?_
    | refine g_skT ?_
    | refine g_skF ?_
    | refine g_goT (by simp only [go_sem, Nat.reduceEqDiff, Nat.reduceAdd, Nat.reduceLeDiff]; first | done | rfl) ?_
    | refine g_goF (by simp only [go_sem, Nat.reduceEqDiff, Nat.reduceAdd, Nat.reduceLeDiff]; first | done | rfl) ?_
    )
  refine w_block (w_count (l.length - 1) (fun c fr σ => fr 0 = .ob o g 2 0 l.length ∧ fr 1 = .sc (.int .i64 0) ∧ fr 2 = .sc (.int .i64 l.length) ∧ fr 3 = .fn 136 [] [] ∧ fr 8 = .sc (.int .i64 ((c + 1 : Nat) : Int)) ∧
    σ.m o g = some ⟨2, labs (sortedL (l.take (c + 1)) ++ l.drop (c + 1)), true, true⟩) ?_ _ _ ?_)
  · rintro c fr σ hc ⟨f0, f1, f2, f3, f8, mm⟩
    by_cases hlt : c + 1 < l.length
    · have hd : decide (((c + 1 : Nat) : Int) < (l.length : Int)) = true := by simp; omega
      (repeat' first
    | refine w_seq ?_
    | refine w_rg ?_
    | refine wo_nil ?_
    | refine s_plain (by simp only [go_sem, Nat.reduceEqDiff, Nat.reduceAdd, Nat.reduceLeDiff, f0, f1, f2, f3, f8, hd]; first | done | rfl) ?_
    | refine s_void (by simp only [go_sem, Nat.reduceEqDiff, Nat.reduceAdd, Nat.reduceLeDiff, f0, f1, f2, f3, f8, hd]; first | done | rfl) ?_
    | refine s_guard (by simp only [go_sem, Nat.reduceEqDiff, Nat.reduceAdd, Nat.reduceLeDiff, f0, f1, f2, f3, f8, hd]; first | done | rfl) ?_
    | refine g_skU ?_
    | refine g_T (by intro hb; simp only [go_sem, Nat.reduceEqDiff, Nat.reduceAdd, Nat.reduceLeDiff, f0, f1, f2, f3, f8, hd, hb]; first | done | rfl) ?_
    | refine g_F (by intro hb; simp only [go_sem, Nat.reduceEqDiff, Nat.reduceAdd, Nat.reduceLeDiff, f0, f1, f2, f3, f8, hd, hb]; first | done | rfl) ?_
    | refine g_gT (by intro hb hc; simp only [go_sem, Nat.reduceEqDiff, Nat.reduceAdd, Nat.reduceLeDiff, f0, f1, f2, f3, f8, hd, hb, hc]; first | done | rfl) ?_
    | refine g_gF (by intro hb hc; simp only [go_sem, Nat.reduceEqDiff, Nat.reduceAdd, Nat.reduceLeDiff, f0, f1, f2, f3, f8, hd, hb, hc]; first | done | rfl) ?_
    | refine g_skT ?_
    | refine g_skF ?_
    | refine g_goT (by simp only [go_sem, Nat.reduceEqDiff, Nat.reduceAdd, Nat.reduceLeDiff, f0, f1, f2, f3, f8, hd]; first | done | rfl) ?_
    | refine g_goF (by simp only [go_sem, Nat.reduceEqDiff, Nat.reduceAdd, Nat.reduceLeDiff, f0, f1, f2, f3, f8, hd]; first | done | rfl) ?_
    | refine w_condT (by simp only [go_sem, Nat.reduceEqDiff, Nat.reduceAdd, Nat.reduceLeDiff, f0, f1, f2, f3, f8, hd]; first | done | rfl) ?_
    | refine w_condF (by simp only [go_sem, Nat.reduceEqDiff, Nat.reduceAdd, Nat.reduceLeDiff, f0, f1, f2, f3, f8, hd]; first | done | rfl) ?_
    | refine w_skip ?_
    | refine w_exit ?_
    | refine w_ret ?_
    )
      refine w_block ?_
      (repeat' first
    | refine w_seq ?_
    | refine w_rg ?_
    | refine wo_nil ?_
    | refine s_plain (by simp only [go_sem, Nat.reduceEqDiff, Nat.reduceAdd, Nat.reduceLeDiff, f0, f1, f2, f3, f8]; first | done | rfl) ?_
    | refine s_void (by simp only [go_sem, Nat.reduceEqDiff, Nat.reduceAdd, Nat.reduceLeDiff, f0, f1, f2, f3, f8]; first | done | rfl) ?_
    | refine s_guard (by simp only [go_sem, Nat.reduceEqDiff, Nat.reduceAdd, Nat.reduceLeDiff, f0, f1, f2, f3, f8]; first | done | rfl) ?_
    | refine g_skU ?_
    | refine g_T (by intro hb; simp only [go_sem, Nat.reduceEqDiff, Nat.reduceAdd, Nat.reduceLeDiff, f0, f1, f2, f3, f8, hb]; first | done | rfl) ?_
    | refine g_F (by intro hb; simp only [go_sem, Nat.reduceEqDiff, Nat.reduceAdd, Nat.reduceLeDiff, f0, f1, f2, f3, f8, hb]; first | done | rfl) ?_
    | refine g_gT (by intro hb hc; simp only [go_sem, Nat.reduceEqDiff, Nat.reduceAdd, Nat.reduceLeDiff, f0, f1, f2, f3, f8, hb, hc]; first | done | rfl) ?_
    | refine g_gF (by intro hb hc; simp only [go_sem, Nat.reduceEqDiff, Nat.reduceAdd, Nat.reduceLeDiff, f0, f1, f2, f3, f8, hb, hc]; first | done | rfl) ?_
    | refine g_skT ?_
    | refine g_skF ?_
    | refine g_goT (by simp only [go_sem, Nat.reduceEqDiff, Nat.reduceAdd, Nat.reduceLeDiff, f0, f1, f2, f3, f8]; first | done | rfl) ?_
    | refine g_goF (by simp only [go_sem, Nat.reduceEqDiff, Nat.reduceAdd, Nat.reduceLeDiff, f0, f1, f2, f3, f8]; first | done | rfl) ?_
    )
      have hal : (sortedL (l.take (c + 1))).length = c + 1 := by rw [sortedL_len, List.length_take]; omega
      have harr : sortedL (l.take (c + 1)) ++ l.drop (c + 1) = midL (sortedL (l.take (c + 1))) l[c + 1] (l.drop (c + 2)) (c + 1) := by
        have t1 : (sortedL (l.take (c + 1))).take (c + 1) = sortedL (l.take (c + 1)) := List.take_of_length_le (by omega)
        have t2 : (sortedL (l.take (c + 1))).drop (c + 1) = [] := List.drop_eq_nil_of_le (by omega)
        unfold midL
        rw [t1, t2, List.drop_eq_getElem_cons (l := l) (i := c + 1) hlt]
        rfl
      refine w_block (w_loop (fun j fr σ => Down o g l.length (c + 1) (sortedL (l.take (c + 1))) l[c + 1] (l.drop (c + 2)) j fr σ) ?_ (c + 1) _ _ ?_)
      · rintro j fr σ ⟨hle, g0, g1, g2, g3, g8, g9, gm, gi⟩
        have hlen : (labs (midL (sortedL (l.take (c + 1))) l[c + 1] (l.drop (c + 2)) j)).length = l.length := by
          rw [labs_len, midL_len _ _ _ _ hle, hal, List.length_drop]; omega
        have e8 : IntKind.i64.wrap (((c + 1 : Nat) : Int) + 1) = ((c + 1 + 1 : Nat) : Int) := wrap_succ hlt (by omega)
        generalize hA : labs (midL (sortedL (l.take (c + 1))) l[c + 1] (l.drop (c + 2)) j) = A at gm hlen
        cases j with
        | zero =>
          have hd0 : decide (((0 : Nat) : Int) > 0) = false := rfl
          (repeat' first
    | refine w_seq ?_
    | refine w_rg ?_
    | refine wo_nil ?_
    | refine s_plain (by simp only [go_sem, Nat.reduceEqDiff, Nat.reduceAdd, Nat.reduceLeDiff, g0, g1, g2, g3, g9, hd0]; first | done | rfl) ?_
    | refine s_void (by simp only [go_sem, Nat.reduceEqDiff, Nat.reduceAdd, Nat.reduceLeDiff, g0, g1, g2, g3, g9, hd0]; first | done | rfl) ?_
    | refine s_guard (by simp only [go_sem, Nat.reduceEqDiff, Nat.reduceAdd, Nat.reduceLeDiff, g0, g1, g2, g3, g9, hd0]; first | done | rfl) ?_
    | refine g_skU ?_
    | refine g_T (by intro hb; simp only [go_sem, Nat.reduceEqDiff, Nat.reduceAdd, Nat.reduceLeDiff, g0, g1, g2, g3, g9, hd0, hb]; first | done | rfl) ?_
    | refine g_F (by intro hb; simp only [go_sem, Nat.reduceEqDiff, Nat.reduceAdd, Nat.reduceLeDiff, g0, g1, g2, g3, g9, hd0, hb]; first | done | rfl) ?_
    | refine g_gT (by intro hb hc; simp only [go_sem, Nat.reduceEqDiff, Nat.reduceAdd, Nat.reduceLeDiff, g0, g1, g2, g3, g9, hd0, hb, hc]; first | done | rfl) ?_
    | refine g_gF (by intro hb hc; simp only [go_sem, Nat.reduceEqDiff, Nat.reduceAdd, Nat.reduceLeDiff, g0, g1, g2, g3, g9, hd0, hb, hc]; first | done | rfl) ?_
    | refine g_skT ?_
    | refine g_skF ?_
    | refine g_goT (by simp only [go_sem, Nat.reduceEqDiff, Nat.reduceAdd, Nat.reduceLeDiff, g0, g1, g2, g3, g9, hd0]; first | done | rfl) ?_
    | refine g_goF (by simp only [go_sem, Nat.reduceEqDiff, Nat.reduceAdd, Nat.reduceLeDiff, g0, g1, g2, g3, g9, hd0]; first | done | rfl) ?_
    | refine w_condT (by simp only [go_sem, Nat.reduceEqDiff, Nat.reduceAdd, Nat.reduceLeDiff, g0, g1, g2, g3, g9, hd0]; first | done | rfl) ?_
    | refine w_condF (by simp only [go_sem, Nat.reduceEqDiff, Nat.reduceAdd, Nat.reduceLeDiff, g0, g1, g2, g3, g9, hd0]; first | done | rfl) ?_
    | refine w_skip ?_
    | refine w_exit ?_
    | refine w_ret ?_
    )
          try simp only [if_true]
          (repeat' first
    | refine w_seq ?_
    | refine w_rg ?_
    | refine wo_nil ?_
    | refine s_plain (by simp only [go_sem, Nat.reduceEqDiff, Nat.reduceAdd, Nat.reduceLeDiff, g8]; first | done | rfl) ?_
    | refine s_void (by simp only [go_sem, Nat.reduceEqDiff, Nat.reduceAdd, Nat.reduceLeDiff, g8]; first | done | rfl) ?_
    | refine s_guard (by simp only [go_sem, Nat.reduceEqDiff, Nat.reduceAdd, Nat.reduceLeDiff, g8]; first | done | rfl) ?_
    | refine g_skU ?_
    | refine g_T (by intro hb; simp only [go_sem, Nat.reduceEqDiff, Nat.reduceAdd, Nat.reduceLeDiff, g8, hb]; first | done | rfl) ?_
    | refine g_F (by intro hb; simp only [go_sem, Nat.reduceEqDiff, Nat.reduceAdd, Nat.reduceLeDiff, g8, hb]; first | done | rfl) ?_
    | refine g_gT (by intro hb hc; simp only [go_sem, Nat.reduceEqDiff, Nat.reduceAdd, Nat.reduceLeDiff, g8, hb, hc]; first | done | rfl) ?_
    | refine g_gF (by intro hb hc; simp only [go_sem, Nat.reduceEqDiff, Nat.reduceAdd, Nat.reduceLeDiff, g8, hb, hc]; first | done | rfl) ?_
    | refine g_skT ?_
    | refine g_skF ?_
    | refine g_goT (by simp only [go_sem, Nat.reduceEqDiff, Nat.reduceAdd, Nat.reduceLeDiff, g8]; first | done | rfl) ?_
    | refine g_goF (by simp only [go_sem, Nat.reduceEqDiff, Nat.reduceAdd, Nat.reduceLeDiff, g8]; first | done | rfl) ?_
    | refine w_condT (by simp only [go_sem, Nat.reduceEqDiff, Nat.reduceAdd, Nat.reduceLeDiff, g8]; first | done | rfl) ?_
    | refine w_condF (by simp only [go_sem, Nat.reduceEqDiff, Nat.reduceAdd, Nat.reduceLeDiff, g8]; first | done | rfl) ?_
    | refine w_skip ?_
    | refine w_exit ?_
    | refine w_ret ?_
    )
          have hfin : midL (sortedL (l.take (c + 1))) l[c + 1] (l.drop (c + 2)) 0 = sortedL (l.take (c + 2)) ++ l.drop (c + 2) := by
            rw [sortedL_succ hlt, insR, gi]
            simp [midL, insAt]
          refine ⟨by omega, ?_, ?_, ?_, ?_, ?_, ?_⟩
          · simp only [go_sem, Nat.reduceEqDiff, Nat.reduceAdd, Nat.reduceLeDiff, g0]
          · simp only [go_sem, Nat.reduceEqDiff, Nat.reduceAdd, Nat.reduceLeDiff, g1]
          · simp only [go_sem, Nat.reduceEqDiff, Nat.reduceAdd, Nat.reduceLeDiff, g2]
          · simp only [go_sem, Nat.reduceEqDiff, Nat.reduceAdd, Nat.reduceLeDiff, g3]
          · simp only [go_sem, Nat.reduceEqDiff, Nat.reduceAdd, Nat.reduceLeDiff, e8]
          · rw [← hfin, hA]; exact gm
        | succ j =>
          have hd1 : decide (((j + 1 : Nat) : Int) > 0) = true := decide_eq_true (by omega)
          have e2 : IntKind.i64.wrap (((j + 1 : Nat) : Int) - 1) = (j : Int) := by rw [IntKind.wrap_i64]; omega
          have e3 : (0 : Int) ≤ ((j + 1 : Nat) : Int) ∧ ((j + 1 : Nat) : Int) < (l.length : Int) := by omega
          have e4 : (0 : Int) ≤ (j : Int) ∧ (j : Int) < (l.length : Int) := by omega
          have x1 : A[j + 1]? = some (.agg [.sc (.string l[c + 1].1), .sc (.string l[c + 1].2)]) := by rw [← hA]; exact labs_at (midL_at hle)
          have x0 : A[j]? = some (.agg [.sc (.string (nth (sortedL (l.take (c + 1))) j).1), .sc (.string (nth (sortedL (l.take (c + 1))) j).2)]) := by rw [← hA]; exact labs_at (midL_before hle)
          have h136 := a136 O l[c + 1] (nth (sortedL (l.take (c + 1))) j)
          simp only [lab] at h136
          have l1 : j + 1 < A.length := by rw [hlen]; omega
          have l0 : j < A.length := by omega
          (repeat' first
    | refine w_seq ?_
    | refine w_rg ?_
    | refine wo_nil ?_
    | refine s_plain (by simp only [go_sem, Nat.reduceEqDiff, Nat.reduceAdd, Nat.reduceLeDiff, g0, g1, g2, g3, g9, gm, hd1, e2, e3, e4, Int.toNat_natCast, x1, x0, h136, cmpB_less]; first | done | rfl) ?_
    | refine s_void (by simp only [go_sem, Nat.reduceEqDiff, Nat.reduceAdd, Nat.reduceLeDiff, g0, g1, g2, g3, g9, gm, hd1, e2, e3, e4, Int.toNat_natCast, x1, x0, h136, cmpB_less]; first | done | rfl) ?_
    | refine s_guard (by simp only [go_sem, Nat.reduceEqDiff, Nat.reduceAdd, Nat.reduceLeDiff, g0, g1, g2, g3, g9, gm, hd1, e2, e3, e4, Int.toNat_natCast, x1, x0, h136, cmpB_less]; first | done | rfl) ?_
    | refine g_skU ?_
    | refine g_T (by intro hb; simp only [go_sem, Nat.reduceEqDiff, Nat.reduceAdd, Nat.reduceLeDiff, g0, g1, g2, g3, g9, gm, hd1, e2, e3, e4, Int.toNat_natCast, x1, x0, h136, cmpB_less, hb]; first | done | rfl) ?_
    | refine g_F (by intro hb; simp only [go_sem, Nat.reduceEqDiff, Nat.reduceAdd, Nat.reduceLeDiff, g0, g1, g2, g3, g9, gm, hd1, e2, e3, e4, Int.toNat_natCast, x1, x0, h136, cmpB_less, hb]; first | done | rfl) ?_
    | refine g_gT (by intro hb hc; simp only [go_sem, Nat.reduceEqDiff, Nat.reduceAdd, Nat.reduceLeDiff, g0, g1, g2, g3, g9, gm, hd1, e2, e3, e4, Int.toNat_natCast, x1, x0, h136, cmpB_less, hb, hc]; first | done | rfl) ?_
    | refine g_gF (by intro hb hc; simp only [go_sem, Nat.reduceEqDiff, Nat.reduceAdd, Nat.reduceLeDiff, g0, g1, g2, g3, g9, gm, hd1, e2, e3, e4, Int.toNat_natCast, x1, x0, h136, cmpB_less, hb, hc]; first | done | rfl) ?_
    | refine g_skT ?_
    | refine g_skF ?_
    | refine g_goT (by simp only [go_sem, Nat.reduceEqDiff, Nat.reduceAdd, Nat.reduceLeDiff, g0, g1, g2, g3, g9, gm, hd1, e2, e3, e4, Int.toNat_natCast, x1, x0, h136, cmpB_less]; first | done | rfl) ?_
    | refine g_goF (by simp only [go_sem, Nat.reduceEqDiff, Nat.reduceAdd, Nat.reduceLeDiff, g0, g1, g2, g3, g9, gm, hd1, e2, e3, e4, Int.toNat_natCast, x1, x0, h136, cmpB_less]; first | done | rfl) ?_
    )
          have hins : insAt l[c + 1] (sortedL (l.take (c + 1))) (j + 1) = if lessB l[c + 1].1 (nth (sortedL (l.take (c + 1))) j).1 then insAt l[c + 1] (sortedL (l.take (c + 1))) j else (sortedL (l.take (c + 1))).take (j + 1) ++ l[c + 1] :: (sortedL (l.take (c + 1))).drop (j + 1) := rfl
          cases hls : lessB l[c + 1].1 (nth (sortedL (l.take (c + 1))) j).1 with
          | false =>
            rw [hls, if_neg (by decide)] at hins
            (repeat' first
    | refine w_seq ?_
    | refine w_rg ?_
    | refine wo_nil ?_
    | refine s_plain (by simp only [go_sem, Nat.reduceEqDiff, Nat.reduceAdd, Nat.reduceLeDiff]; first | done | rfl) ?_
    | refine s_void (by simp only [go_sem, Nat.reduceEqDiff, Nat.reduceAdd, Nat.reduceLeDiff]; first | done | rfl) ?_
    | refine s_guard (by simp only [go_sem, Nat.reduceEqDiff, Nat.reduceAdd, Nat.reduceLeDiff]; first | done | rfl) ?_
    | refine g_skU ?_
    | refine g_T (by intro hb; simp only [go_sem, Nat.reduceEqDiff, Nat.reduceAdd, Nat.reduceLeDiff, hb]; first | done | rfl) ?_
    | refine g_F (by intro hb; simp only [go_sem, Nat.reduceEqDiff, Nat.reduceAdd, Nat.reduceLeDiff, hb]; first | done | rfl) ?_
    | refine g_gT (by intro hb hc; simp only [go_sem, Nat.reduceEqDiff, Nat.reduceAdd, Nat.reduceLeDiff, hb, hc]; first | done | rfl) ?_
    | refine g_gF (by intro hb hc; simp only [go_sem, Nat.reduceEqDiff, Nat.reduceAdd, Nat.reduceLeDiff, hb, hc]; first | done | rfl) ?_
    | refine g_skT ?_
    | refine g_skF ?_
    | refine g_goT (by simp only [go_sem, Nat.reduceEqDiff, Nat.reduceAdd, Nat.reduceLeDiff]; first | done | rfl) ?_
    | refine g_goF (by simp only [go_sem, Nat.reduceEqDiff, Nat.reduceAdd, Nat.reduceLeDiff]; first | done | rfl) ?_
    | refine w_condT (by simp only [go_sem, Nat.reduceEqDiff, Nat.reduceAdd, Nat.reduceLeDiff]; first | done | rfl) ?_
    | refine w_condF (by simp only [go_sem, Nat.reduceEqDiff, Nat.reduceAdd, Nat.reduceLeDiff]; first | done | rfl) ?_
    | refine w_skip ?_
    | refine w_exit ?_
    | refine w_ret ?_
    )
            try simp only [if_true]
            (repeat' first
    | refine w_seq ?_
    | refine w_rg ?_
    | refine wo_nil ?_
    | refine s_plain (by simp only [go_sem, Nat.reduceEqDiff, Nat.reduceAdd, Nat.reduceLeDiff, g8]; first | done | rfl) ?_
    | refine s_void (by simp only [go_sem, Nat.reduceEqDiff, Nat.reduceAdd, Nat.reduceLeDiff, g8]; first | done | rfl) ?_
    | refine s_guard (by simp only [go_sem, Nat.reduceEqDiff, Nat.reduceAdd, Nat.reduceLeDiff, g8]; first | done | rfl) ?_
    | refine g_skU ?_
    | refine g_T (by intro hb; simp only [go_sem, Nat.reduceEqDiff, Nat.reduceAdd, Nat.reduceLeDiff, g8, hb]; first | done | rfl) ?_
    | refine g_F (by intro hb; simp only [go_sem, Nat.reduceEqDiff, Nat.reduceAdd, Nat.reduceLeDiff, g8, hb]; first | done | rfl) ?_
    | refine g_gT (by intro hb hc; simp only [go_sem, Nat.reduceEqDiff, Nat.reduceAdd, Nat.reduceLeDiff, g8, hb, hc]; first | done | rfl) ?_
    | refine g_gF (by intro hb hc; simp only [go_sem, Nat.reduceEqDiff, Nat.reduceAdd, Nat.reduceLeDiff, g8, hb, hc]; first | done | rfl) ?_
    | refine g_skT ?_
    | refine g_skF ?_
    | refine g_goT (by simp only [go_sem, Nat.reduceEqDiff, Nat.reduceAdd, Nat.reduceLeDiff, g8]; first | done | rfl) ?_
    | refine g_goF (by simp only [go_sem, Nat.reduceEqDiff, Nat.reduceAdd, Nat.reduceLeDiff, g8]; first | done | rfl) ?_
    | refine w_condT (by simp only [go_sem, Nat.reduceEqDiff, Nat.reduceAdd, Nat.reduceLeDiff, g8]; first | done | rfl) ?_
    | refine w_condF (by simp only [go_sem, Nat.reduceEqDiff, Nat.reduceAdd, Nat.reduceLeDiff, g8]; first | done | rfl) ?_
    | refine w_skip ?_
    | refine w_exit ?_
    | refine w_ret ?_
    )
            have hfin : midL (sortedL (l.take (c + 1))) l[c + 1] (l.drop (c + 2)) (j + 1) = sortedL (l.take (c + 2)) ++ l.drop (c + 2) := by
              rw [sortedL_succ hlt, insR, gi, hins]
              simp [midL]
            refine ⟨by omega, ?_, ?_, ?_, ?_, ?_, ?_⟩
            · simp only [go_sem, Nat.reduceEqDiff, Nat.reduceAdd, Nat.reduceLeDiff, g0]
            · simp only [go_sem, Nat.reduceEqDiff, Nat.reduceAdd, Nat.reduceLeDiff, g1]
            · simp only [go_sem, Nat.reduceEqDiff, Nat.reduceAdd, Nat.reduceLeDiff, g2]
            · simp only [go_sem, Nat.reduceEqDiff, Nat.reduceAdd, Nat.reduceLeDiff, g3]
            · simp only [go_sem, Nat.reduceEqDiff, Nat.reduceAdd, Nat.reduceLeDiff, e8]
            · rw [← hfin, hA]; exact gm
          | true =>
            rw [hls, if_pos rfl] at hins
            (repeat' first
    | refine w_seq ?_
    | refine w_rg ?_
    | refine wo_nil ?_
    | refine s_plain (by simp only [go_sem, Nat.reduceEqDiff, Nat.reduceAdd, Nat.reduceLeDiff]; first | done | rfl) ?_
    | refine s_void (by simp only [go_sem, Nat.reduceEqDiff, Nat.reduceAdd, Nat.reduceLeDiff]; first | done | rfl) ?_
    | refine s_guard (by simp only [go_sem, Nat.reduceEqDiff, Nat.reduceAdd, Nat.reduceLeDiff]; first | done | rfl) ?_
    | refine g_skU ?_
    | refine g_T (by intro hb; simp only [go_sem, Nat.reduceEqDiff, Nat.reduceAdd, Nat.reduceLeDiff, hb]; first | done | rfl) ?_
    | refine g_F (by intro hb; simp only [go_sem, Nat.reduceEqDiff, Nat.reduceAdd, Nat.reduceLeDiff, hb]; first | done | rfl) ?_
    | refine g_gT (by intro hb hc; simp only [go_sem, Nat.reduceEqDiff, Nat.reduceAdd, Nat.reduceLeDiff, hb, hc]; first | done | rfl) ?_
    | refine g_gF (by intro hb hc; simp only [go_sem, Nat.reduceEqDiff, Nat.reduceAdd, Nat.reduceLeDiff, hb, hc]; first | done | rfl) ?_
    | refine g_skT ?_
    | refine g_skF ?_
    | refine g_goT (by simp only [go_sem, Nat.reduceEqDiff, Nat.reduceAdd, Nat.reduceLeDiff]; first | done | rfl) ?_
    | refine g_goF (by simp only [go_sem, Nat.reduceEqDiff, Nat.reduceAdd, Nat.reduceLeDiff]; first | done | rfl) ?_
    | refine w_condT (by simp only [go_sem, Nat.reduceEqDiff, Nat.reduceAdd, Nat.reduceLeDiff]; first | done | rfl) ?_
    | refine w_condF (by simp only [go_sem, Nat.reduceEqDiff, Nat.reduceAdd, Nat.reduceLeDiff]; first | done | rfl) ?_
    | refine w_skip ?_
    | refine w_exit ?_
    | refine w_ret ?_
    )
            refine w_block ?_
            (repeat' first
    | refine w_seq ?_
    | refine w_rg ?_
    | refine wo_nil ?_
    | refine s_plain (by simp only [go_sem, Nat.reduceEqDiff, Nat.reduceAdd, Nat.reduceLeDiff, g0, g1, g2, g3, g9, gm, hd1, e2, e3, e4, Int.toNat_natCast, x1, x0, l1, l0, List.length_modify]; first | done | rfl) ?_
    | refine s_void (by simp only [go_sem, Nat.reduceEqDiff, Nat.reduceAdd, Nat.reduceLeDiff, g0, g1, g2, g3, g9, gm, hd1, e2, e3, e4, Int.toNat_natCast, x1, x0, l1, l0, List.length_modify]; first | done | rfl) ?_
    | refine s_guard (by simp only [go_sem, Nat.reduceEqDiff, Nat.reduceAdd, Nat.reduceLeDiff, g0, g1, g2, g3, g9, gm, hd1, e2, e3, e4, Int.toNat_natCast, x1, x0, l1, l0, List.length_modify]; first | done | rfl) ?_
    | refine g_skU ?_
    | refine g_T (by intro hb; simp only [go_sem, Nat.reduceEqDiff, Nat.reduceAdd, Nat.reduceLeDiff, g0, g1, g2, g3, g9, gm, hd1, e2, e3, e4, Int.toNat_natCast, x1, x0, l1, l0, List.length_modify, hb]; first | done | rfl) ?_
    | refine g_F (by intro hb; simp only [go_sem, Nat.reduceEqDiff, Nat.reduceAdd, Nat.reduceLeDiff, g0, g1, g2, g3, g9, gm, hd1, e2, e3, e4, Int.toNat_natCast, x1, x0, l1, l0, List.length_modify, hb]; first | done | rfl) ?_
    | refine g_gT (by intro hb hc; simp only [go_sem, Nat.reduceEqDiff, Nat.reduceAdd, Nat.reduceLeDiff, g0, g1, g2, g3, g9, gm, hd1, e2, e3, e4, Int.toNat_natCast, x1, x0, l1, l0, List.length_modify, hb, hc]; first | done | rfl) ?_
    | refine g_gF (by intro hb hc; simp only [go_sem, Nat.reduceEqDiff, Nat.reduceAdd, Nat.reduceLeDiff, g0, g1, g2, g3, g9, gm, hd1, e2, e3, e4, Int.toNat_natCast, x1, x0, l1, l0, List.length_modify, hb, hc]; first | done | rfl) ?_
    | refine g_skT ?_
    | refine g_skF ?_
    | refine g_goT (by simp only [go_sem, Nat.reduceEqDiff, Nat.reduceAdd, Nat.reduceLeDiff, g0, g1, g2, g3, g9, gm, hd1, e2, e3, e4, Int.toNat_natCast, x1, x0, l1, l0, List.length_modify]; first | done | rfl) ?_
    | refine g_goF (by simp only [go_sem, Nat.reduceEqDiff, Nat.reduceAdd, Nat.reduceLeDiff, g0, g1, g2, g3, g9, gm, hd1, e2, e3, e4, Int.toNat_natCast, x1, x0, l1, l0, List.length_modify]; first | done | rfl) ?_
    | refine w_condT (by simp only [go_sem, Nat.reduceEqDiff, Nat.reduceAdd, Nat.reduceLeDiff, g0, g1, g2, g3, g9, gm, hd1, e2, e3, e4, Int.toNat_natCast, x1, x0, l1, l0, List.length_modify]; first | done | rfl) ?_
    | refine w_condF (by simp only [go_sem, Nat.reduceEqDiff, Nat.reduceAdd, Nat.reduceLeDiff, g0, g1, g2, g3, g9, gm, hd1, e2, e3, e4, Int.toNat_natCast, x1, x0, l1, l0, List.length_modify]; first | done | rfl) ?_
    | refine w_skip ?_
    | refine w_exit ?_
    | refine w_ret ?_
    )
            refine ⟨j, by omega, by omega, ?_, ?_, ?_, ?_, ?_, ?_, ?_, ?_⟩
            · simp only [go_sem, Nat.reduceEqDiff, Nat.reduceAdd, Nat.reduceLeDiff, g0]
            · simp only [go_sem, Nat.reduceEqDiff, Nat.reduceAdd, Nat.reduceLeDiff, g1]
            · simp only [go_sem, Nat.reduceEqDiff, Nat.reduceAdd, Nat.reduceLeDiff, g2]
            · simp only [go_sem, Nat.reduceEqDiff, Nat.reduceAdd, Nat.reduceLeDiff, g3]
            · simp only [go_sem, Nat.reduceEqDiff, Nat.reduceAdd, Nat.reduceLeDiff, g8]
            · simp only [go_sem, Nat.reduceEqDiff, Nat.reduceAdd, Nat.reduceLeDiff]
            · simp only [go_sem, Nat.reduceEqDiff, Nat.reduceAdd, Nat.reduceLeDiff, gm]
              have q : ((labs (midL (sortedL (l.take (c + 1))) l[c + 1] (l.drop (c + 2)) (j + 1))).set (j + 1) (lab (nth (sortedL (l.take (c + 1))) j))).set j (lab l[c + 1]) = labs (midL (sortedL (l.take (c + 1))) l[c + 1] (l.drop (c + 2)) j) := by
                rw [labs_set, labs_set, midL_swap hle]
              rw [← hA, modify_set, modify_set]
              exact congrArg (fun xs => some (Obj.mk 2 xs true true)) q
            · rw [gi, hins]
      · refine ⟨by omega, ?_, ?_, ?_, ?_, ?_, ?_, ?_, ?_⟩
        · simp only [go_sem, Nat.reduceEqDiff, Nat.reduceAdd, Nat.reduceLeDiff, f0]
        · simp only [go_sem, Nat.reduceEqDiff, Nat.reduceAdd, Nat.reduceLeDiff, f1]
        · simp only [go_sem, Nat.reduceEqDiff, Nat.reduceAdd, Nat.reduceLeDiff, f2]
        · simp only [go_sem, Nat.reduceEqDiff, Nat.reduceAdd, Nat.reduceLeDiff, f3]
        · simp only [go_sem, Nat.reduceEqDiff, Nat.reduceAdd, Nat.reduceLeDiff, f8]
        · simp only [go_sem, Nat.reduceEqDiff, Nat.reduceAdd, Nat.reduceLeDiff, f8]
        · rw [← harr]; exact mm
        · rw [hal]
    · have hd : decide (((c + 1 : Nat) : Int) < (l.length : Int)) = false := by simp; omega
      (repeat' first
    | refine w_seq ?_
    | refine w_rg ?_
    | refine wo_nil ?_
    | refine s_plain (by simp only [go_sem, Nat.reduceEqDiff, Nat.reduceAdd, Nat.reduceLeDiff, f0, f1, f2, f3, f8, hd]; first | done | rfl) ?_
    | refine s_void (by simp only [go_sem, Nat.reduceEqDiff, Nat.reduceAdd, Nat.reduceLeDiff, f0, f1, f2, f3, f8, hd]; first | done | rfl) ?_
    | refine s_guard (by simp only [go_sem, Nat.reduceEqDiff, Nat.reduceAdd, Nat.reduceLeDiff, f0, f1, f2, f3, f8, hd]; first | done | rfl) ?_
    | refine g_skU ?_
    | refine g_T (by intro hb; simp only [go_sem, Nat.reduceEqDiff, Nat.reduceAdd, Nat.reduceLeDiff, f0, f1, f2, f3, f8, hd, hb]; first | done | rfl) ?_
    | refine g_F (by intro hb; simp only [go_sem, Nat.reduceEqDiff, Nat.reduceAdd, Nat.reduceLeDiff, f0, f1, f2, f3, f8, hd, hb]; first | done | rfl) ?_
    | refine g_gT (by intro hb hc; simp only [go_sem, Nat.reduceEqDiff, Nat.reduceAdd, Nat.reduceLeDiff, f0, f1, f2, f3, f8, hd, hb, hc]; first | done | rfl) ?_
    | refine g_gF (by intro hb hc; simp only [go_sem, Nat.reduceEqDiff, Nat.reduceAdd, Nat.reduceLeDiff, f0, f1, f2, f3, f8, hd, hb, hc]; first | done | rfl) ?_
    | refine g_skT ?_
    | refine g_skF ?_
    | refine g_goT (by simp only [go_sem, Nat.reduceEqDiff, Nat.reduceAdd, Nat.reduceLeDiff, f0, f1, f2, f3, f8, hd]; first | done | rfl) ?_
    | refine g_goF (by simp only [go_sem, Nat.reduceEqDiff, Nat.reduceAdd, Nat.reduceLeDiff, f0, f1, f2, f3, f8, hd]; first | done | rfl) ?_
    | refine w_condT (by simp only [go_sem, Nat.reduceEqDiff, Nat.reduceAdd, Nat.reduceLeDiff, f0, f1, f2, f3, f8, hd]; first | done | rfl) ?_
    | refine w_condF (by simp only [go_sem, Nat.reduceEqDiff, Nat.reduceAdd, Nat.reduceLeDiff, f0, f1, f2, f3, f8, hd]; first | done | rfl) ?_
    | refine w_skip ?_
    | refine w_exit ?_
    | refine w_ret ?_
    )
      simp only [if_true]
      have h1 : sortedL (l.take (c + 1)) ++ l.drop (c + 1) = sortedL l := by
        rw [List.take_of_length_le (by omega : l.length ≤ c + 1), List.drop_eq_nil_of_le (by omega : l.length ≤ c + 1), List.append_nil]
      rw [h1] at mm
      exact ⟨by first | exact .inl rfl | exact .inl trivial, _, rfl, rfl, mm⟩
  · have h1 : sortedL (l.take (0 + 1)) ++ l.drop (0 + 1) = l := by
      cases l with
      | nil => rfl
      | cons x r => rfl
    refine ⟨?_, ?_, ?_, ?_, ?_, ?_⟩
    · simp only [go_sem, Nat.reduceEqDiff, Nat.reduceAdd, Nat.reduceLeDiff]
    · simp only [go_sem, Nat.reduceEqDiff, Nat.reduceAdd, Nat.reduceLeDiff]
    · simp only [go_sem, Nat.reduceEqDiff, Nat.reduceAdd, Nat.reduceLeDiff]
    · rfl
    · simp only [go_sem, Nat.reduceEqDiff, Nat.reduceAdd, Nat.reduceLeDiff]; rfl
    · rw [h1]; exact hm

theorem a143e (O : Has lo env) : EV env 143 [.em, .sc (.int .i64 0), .sc (.int .i64 0), .fn 136 [] []] σ = some (.tu [], σ) := by
  refine EV_wp (O (143, d143) (by simp [lo])) rfl ?_
  (repeat' first
    | refine w_seq ?_
    | refine w_rg ?_
    | refine wo_nil ?_
    | refine s_plain (by simp only [go_sem, Nat.reduceEqDiff, Nat.reduceAdd, Nat.reduceLeDiff]; first | done | rfl) ?_
    | refine s_void (by simp only [go_sem, Nat.reduceEqDiff, Nat.reduceAdd, Nat.reduceLeDiff]; first | done | rfl) ?_
    | refine s_guard (by simp only [go_sem, Nat.reduceEqDiff, Nat.reduceAdd, Nat.reduceLeDiff]; first | done | rfl) ?_
    | refine g_skU ?_
    | refine g_T (by intro hb; simp only [go_sem, Nat.reduceEqDiff, Nat.reduceAdd, Nat.reduceLeDiff, hb]; first | done | rfl) ?_
    | refine g_F (by intro hb; simp only [go_sem, Nat.reduceEqDiff, Nat.reduceAdd, Nat.reduceLeDiff, hb]; first | done | rfl) ?_
    | refine g_gT (by intro hb hc; simp only [go_sem, Nat.reduceEqDiff, Nat.reduceAdd, Nat.reduceLeDiff, hb, hc]; first | done | rfl) ?_
    | refine g_gF (by intro hb hc; simp only [go_sem, Nat.reduceEqDiff, Nat.reduceAdd, Nat.reduceLeDiff, hb, hc]; first | done | rfl) ?_
    | refine g_skT ?_
    | refine g_skF ?_
    | refine g_goT (by simp only [go_sem, Nat.reduceEqDiff, Nat.reduceAdd, Nat.reduceLeDiff]; first | done | rfl) ?_
    | refine g_goF (by simp only [go_sem, Nat.reduceEqDiff, Nat.reduceAdd, Nat.reduceLeDiff]; first | done | rfl) ?_
    )
  refine w_block (w_loop (fun _ fr τ => fr 8 = .sc (.int .i64 1) ∧ fr 2 = .sc (.int .i64 0) ∧ τ = σ) ?_ 0 _ _ ?_)
  · rintro n fr τ ⟨h8, h2, rfl⟩
    have hd : decide ((1 : Int) < 0) = false := rfl
    (repeat' first
    | refine w_seq ?_
    | refine w_rg ?_
    | refine wo_nil ?_
    | refine s_plain (by simp only [go_sem, Nat.reduceEqDiff, Nat.reduceAdd, Nat.reduceLeDiff, h8, h2, hd]; first | done | rfl) ?_
    | refine s_void (by simp only [go_sem, Nat.reduceEqDiff, Nat.reduceAdd, Nat.reduceLeDiff, h8, h2, hd]; first | done | rfl) ?_
    | refine s_guard (by simp only [go_sem, Nat.reduceEqDiff, Nat.reduceAdd, Nat.reduceLeDiff, h8, h2, hd]; first | done | rfl) ?_
    | refine g_skU ?_
    | refine g_T (by intro hb; simp only [go_sem, Nat.reduceEqDiff, Nat.reduceAdd, Nat.reduceLeDiff, h8, h2, hd, hb]; first | done | rfl) ?_
    | refine g_F (by intro hb; simp only [go_sem, Nat.reduceEqDiff, Nat.reduceAdd, Nat.reduceLeDiff, h8, h2, hd, hb]; first | done | rfl) ?_
    | refine g_gT (by intro hb hc; simp only [go_sem, Nat.reduceEqDiff, Nat.reduceAdd, Nat.reduceLeDiff, h8, h2, hd, hb, hc]; first | done | rfl) ?_
    | refine g_gF (by intro hb hc; simp only [go_sem, Nat.reduceEqDiff, Nat.reduceAdd, Nat.reduceLeDiff, h8, h2, hd, hb, hc]; first | done | rfl) ?_
    | refine g_skT ?_
    | refine g_skF ?_
    | refine g_goT (by simp only [go_sem, Nat.reduceEqDiff, Nat.reduceAdd, Nat.reduceLeDiff, h8, h2, hd]; first | done | rfl) ?_
    | refine g_goF (by simp only [go_sem, Nat.reduceEqDiff, Nat.reduceAdd, Nat.reduceLeDiff, h8, h2, hd]; first | done | rfl) ?_
    | refine w_condT (by simp only [go_sem, Nat.reduceEqDiff, Nat.reduceAdd, Nat.reduceLeDiff, h8, h2, hd]; first | done | rfl) ?_
    | refine w_condF (by simp only [go_sem, Nat.reduceEqDiff, Nat.reduceAdd, Nat.reduceLeDiff, h8, h2, hd]; first | done | rfl) ?_
    | refine w_skip ?_
    | refine w_exit ?_
    | refine w_ret ?_
    )
    simp only [if_true]
    exact ⟨by first | exact .inl rfl | exact .inl trivial, by first | rfl | trivial, by first | rfl | trivial⟩
  · refine ⟨?_, ?_, rfl⟩
    · simp only [go_sem, Nat.reduceEqDiff, Nat.reduceAdd, Nat.reduceLeDiff]; rfl
    · simp only [go_sem, Nat.reduceEqDiff, Nat.reduceAdd, Nat.reduceLeDiff]

theorem a140 (O : Has lo env) {l : List Lab} (hn : l.length ≤ 12) {o g : Nat} (q : Int) (hm : σ.m o g = some ⟨2, labs l, true, true⟩) :
    ∃ r σ', EV env 140 [.ob o g 2 0 l.length, .sc (.int .i64 0), .sc (.int .i64 l.length), .sc (.int .i64 q), .fn 136 [] []] σ = some (r, σ') ∧ (r = .tu [] ∧ σ'.m o g = some ⟨2, labs (sortedL l), true, true⟩) := by
  obtain ⟨r, σ1, h1, rfl, h2⟩ := a143 O (by omega) hm
  have e1 : IntKind.i64.wrap ((l.length : Int) - 0) = (l.length : Int) := by rw [IntKind.wrap_i64]; omega
  have hd : decide ((l.length : Int) ≤ 12) = true := decide_eq_true (by omega)
  refine EV_wp' (O (140, d140) (by simp [lo])) rfl ?_
  (repeat' first
    | refine w_seq ?_
    | refine w_rg ?_
    | refine wo_nil ?_
    | refine s_plain (by simp only [go_sem, Nat.reduceEqDiff, Nat.reduceAdd, Nat.reduceLeDiff]; first | done | rfl) ?_
    | refine s_void (by simp only [go_sem, Nat.reduceEqDiff, Nat.reduceAdd, Nat.reduceLeDiff]; first | done | rfl) ?_
    | refine s_guard (by simp only [go_sem, Nat.reduceEqDiff, Nat.reduceAdd, Nat.reduceLeDiff]; first | done | rfl) ?_
    | refine g_skU ?_
    | refine g_T (by intro hb; simp only [go_sem, Nat.reduceEqDiff, Nat.reduceAdd, Nat.reduceLeDiff, hb]; first | done | rfl) ?_
    | refine g_F (by intro hb; simp only [go_sem, Nat.reduceEqDiff, Nat.reduceAdd, Nat.reduceLeDiff, hb]; first | done | rfl) ?_
    | refine g_gT (by intro hb hc; simp only [go_sem, Nat.reduceEqDiff, Nat.reduceAdd, Nat.reduceLeDiff, hb, hc]; first | done | rfl) ?_
    | refine g_gF (by intro hb hc; simp only [go_sem, Nat.reduceEqDiff, Nat.reduceAdd, Nat.reduceLeDiff, hb, hc]; first | done | rfl) ?_
    | refine g_skT ?_
    | refine g_skF ?_
    | refine g_goT (by simp only [go_sem, Nat.reduceEqDiff, Nat.reduceAdd, Nat.reduceLeDiff]; first | done | rfl) ?_
    | refine g_goF (by simp only [go_sem, Nat.reduceEqDiff, Nat.reduceAdd, Nat.reduceLeDiff]; first | done | rfl) ?_
    )
  refine w_block (w_loop_step (w_block ?_))
  (repeat' first
    | refine w_seq ?_
    | refine w_rg ?_
    | refine wo_nil ?_
    | refine s_plain (by simp only [go_sem, Nat.reduceEqDiff, Nat.reduceAdd, Nat.reduceLeDiff, e1, hd, h1]; first | done | rfl) ?_
    | refine s_void (by simp only [go_sem, Nat.reduceEqDiff, Nat.reduceAdd, Nat.reduceLeDiff, e1, hd, h1]; first | done | rfl) ?_
    | refine s_guard (by simp only [go_sem, Nat.reduceEqDiff, Nat.reduceAdd, Nat.reduceLeDiff, e1, hd, h1]; first | done | rfl) ?_
    | refine g_skU ?_
    | refine g_T (by intro hb; simp only [go_sem, Nat.reduceEqDiff, Nat.reduceAdd, Nat.reduceLeDiff, e1, hd, h1, hb]; first | done | rfl) ?_
    | refine g_F (by intro hb; simp only [go_sem, Nat.reduceEqDiff, Nat.reduceAdd, Nat.reduceLeDiff, e1, hd, h1, hb]; first | done | rfl) ?_
    | refine g_gT (by intro hb hc; simp only [go_sem, Nat.reduceEqDiff, Nat.reduceAdd, Nat.reduceLeDiff, e1, hd, h1, hb, hc]; first | done | rfl) ?_
    | refine g_gF (by intro hb hc; simp only [go_sem, Nat.reduceEqDiff, Nat.reduceAdd, Nat.reduceLeDiff, e1, hd, h1, hb, hc]; first | done | rfl) ?_
    | refine g_skT ?_
    | refine g_skF ?_
    | refine g_goT (by simp only [go_sem, Nat.reduceEqDiff, Nat.reduceAdd, Nat.reduceLeDiff, e1, hd, h1]; first | done | rfl) ?_
    | refine g_goF (by simp only [go_sem, Nat.reduceEqDiff, Nat.reduceAdd, Nat.reduceLeDiff, e1, hd, h1]; first | done | rfl) ?_
    | refine w_condT (by simp only [go_sem, Nat.reduceEqDiff, Nat.reduceAdd, Nat.reduceLeDiff, e1, hd, h1]; first | done | rfl) ?_
    | refine w_condF (by simp only [go_sem, Nat.reduceEqDiff, Nat.reduceAdd, Nat.reduceLeDiff, e1, hd, h1]; first | done | rfl) ?_
    | refine w_skip ?_
    | refine w_exit ?_
    | refine w_ret ?_
    )
  exact ⟨by first | exact .inr rfl | exact .inr trivial, _, rfl, rfl, h2⟩

theorem a140e (O : Has lo env) (q : Int) : EV env 140 [.em, .sc (.int .i64 0), .sc (.int .i64 0), .sc (.int .i64 q), .fn 136 [] []] σ = some (.tu [], σ) := by
  have h1 := a143e (σ := σ) O
  have e1 : IntKind.i64.wrap ((0 : Int) - 0) = 0 := by decide
  have hd : decide ((0 : Int) ≤ 12) = true := rfl
  refine EV_wp (O (140, d140) (by simp [lo])) rfl ?_
  (repeat' first
    | refine w_seq ?_
    | refine w_rg ?_
    | refine wo_nil ?_
    | refine s_plain (by simp only [go_sem, Nat.reduceEqDiff, Nat.reduceAdd, Nat.reduceLeDiff]; first | done | rfl) ?_
    | refine s_void (by simp only [go_sem, Nat.reduceEqDiff, Nat.reduceAdd, Nat.reduceLeDiff]; first | done | rfl) ?_
    | refine s_guard (by simp only [go_sem, Nat.reduceEqDiff, Nat.reduceAdd, Nat.reduceLeDiff]; first | done | rfl) ?_
    | refine g_skU ?_
    | refine g_T (by intro hb; simp only [go_sem, Nat.reduceEqDiff, Nat.reduceAdd, Nat.reduceLeDiff, hb]; first | done | rfl) ?_
    | refine g_F (by intro hb; simp only [go_sem, Nat.reduceEqDiff, Nat.reduceAdd, Nat.reduceLeDiff, hb]; first | done | rfl) ?_
    | refine g_gT (by intro hb hc; simp only [go_sem, Nat.reduceEqDiff, Nat.reduceAdd, Nat.reduceLeDiff, hb, hc]; first | done | rfl) ?_
    | refine g_gF (by intro hb hc; simp only [go_sem, Nat.reduceEqDiff, Nat.reduceAdd, Nat.reduceLeDiff, hb, hc]; first | done | rfl) ?_
    | refine g_skT ?_
    | refine g_skF ?_
    | refine g_goT (by simp only [go_sem, Nat.reduceEqDiff, Nat.reduceAdd, Nat.reduceLeDiff]; first | done | rfl) ?_
    | refine g_goF (by simp only [go_sem, Nat.reduceEqDiff, Nat.reduceAdd, Nat.reduceLeDiff]; first | done | rfl) ?_
    )
  refine w_block (w_loop_step (w_block ?_))
  (repeat' first
    | refine w_seq ?_
    | refine w_rg ?_
    | refine wo_nil ?_
    | refine s_plain (by simp only [go_sem, Nat.reduceEqDiff, Nat.reduceAdd, Nat.reduceLeDiff, e1, hd, h1]; first | done | rfl) ?_
    | refine s_void (by simp only [go_sem, Nat.reduceEqDiff, Nat.reduceAdd, Nat.reduceLeDiff, e1, hd, h1]; first | done | rfl) ?_
    | refine s_guard (by simp only [go_sem, Nat.reduceEqDiff, Nat.reduceAdd, Nat.reduceLeDiff, e1, hd, h1]; first | done | rfl) ?_
    | refine g_skU ?_
    | refine g_T (by intro hb; simp only [go_sem, Nat.reduceEqDiff, Nat.reduceAdd, Nat.reduceLeDiff, e1, hd, h1, hb]; first | done | rfl) ?_
    | refine g_F (by intro hb; simp only [go_sem, Nat.reduceEqDiff, Nat.reduceAdd, Nat.reduceLeDiff, e1, hd, h1, hb]; first | done | rfl) ?_
    | refine g_gT (by intro hb hc; simp only [go_sem, Nat.reduceEqDiff, Nat.reduceAdd, Nat.reduceLeDiff, e1, hd, h1, hb, hc]; first | done | rfl) ?_
    | refine g_gF (by intro hb hc; simp only [go_sem, Nat.reduceEqDiff, Nat.reduceAdd, Nat.reduceLeDiff, e1, hd, h1, hb, hc]; first | done | rfl) ?_
    | refine g_skT ?_
    | refine g_skF ?_
    | refine g_goT (by simp only [go_sem, Nat.reduceEqDiff, Nat.reduceAdd, Nat.reduceLeDiff, e1, hd, h1]; first | done | rfl) ?_
    | refine g_goF (by simp only [go_sem, Nat.reduceEqDiff, Nat.reduceAdd, Nat.reduceLeDiff, e1, hd, h1]; first | done | rfl) ?_
    | refine w_condT (by simp only [go_sem, Nat.reduceEqDiff, Nat.reduceAdd, Nat.reduceLeDiff, e1, hd, h1]; first | done | rfl) ?_
    | refine w_condF (by simp only [go_sem, Nat.reduceEqDiff, Nat.reduceAdd, Nat.reduceLeDiff, e1, hd, h1]; first | done | rfl) ?_
    | refine w_skip ?_
    | refine w_exit ?_
    | refine w_ret ?_
    )
  exact ⟨by first | exact .inr rfl | exact .inr trivial, by first | rfl | trivial, by first | rfl | trivial⟩

theorem wrap_u64 {n : Nat} (h : n ≤ 1000000) : IntKind.u64.wrap (n : Int) = (n : Int) := by
  unfold IntKind.wrap
  simp [IntKind.min, IntKind.max, IntKind.signed, IntKind.bits]
  omega

theorem a135 (O : Has lo env) {l : List Lab} (hn : l.length ≤ 12) {o g : Nat} {q : Int} (hq : AV env 141 [.sc (.int .u64 l.length)] = some (.sc (.int .i64 q))) (hm : σ.m o g = some ⟨2, labs l, true, true⟩) :
    ∃ r σ', EV env 135 [.ob o g 2 0 l.length, .fn 136 [] []] σ = some (r, σ') ∧ (r = .tu [] ∧ σ'.m o g = some ⟨2, labs (sortedL l), true, true⟩) := by
  obtain ⟨r, σ1, h1, rfl, h2⟩ := a140 O hn q hm
  have e1 := wrap_u64 (n := l.length) (by omega)
  refine EV_wp' (O (135, d135) (by simp [lo])) rfl ?_
  (repeat' first
    | refine w_seq ?_
    | refine w_rg ?_
    | refine wo_nil ?_
    | refine s_plain (by simp only [go_sem, Nat.reduceEqDiff, Nat.reduceAdd, Nat.reduceLeDiff, e1, hq, h1]; first | done | rfl) ?_
    | refine s_void (by simp only [go_sem, Nat.reduceEqDiff, Nat.reduceAdd, Nat.reduceLeDiff, e1, hq, h1]; first | done | rfl) ?_
    | refine s_guard (by simp only [go_sem, Nat.reduceEqDiff, Nat.reduceAdd, Nat.reduceLeDiff, e1, hq, h1]; first | done | rfl) ?_
    | refine g_skU ?_
    | refine g_T (by intro hb; simp only [go_sem, Nat.reduceEqDiff, Nat.reduceAdd, Nat.reduceLeDiff, e1, hq, h1, hb]; first | done | rfl) ?_
    | refine g_F (by intro hb; simp only [go_sem, Nat.reduceEqDiff, Nat.reduceAdd, Nat.reduceLeDiff, e1, hq, h1, hb]; first | done | rfl) ?_
    | refine g_gT (by intro hb hc; simp only [go_sem, Nat.reduceEqDiff, Nat.reduceAdd, Nat.reduceLeDiff, e1, hq, h1, hb, hc]; first | done | rfl) ?_
    | refine g_gF (by intro hb hc; simp only [go_sem, Nat.reduceEqDiff, Nat.reduceAdd, Nat.reduceLeDiff, e1, hq, h1, hb, hc]; first | done | rfl) ?_
    | refine g_skT ?_
    | refine g_skF ?_
    | refine g_goT (by simp only [go_sem, Nat.reduceEqDiff, Nat.reduceAdd, Nat.reduceLeDiff, e1, hq, h1]; first | done | rfl) ?_
    | refine g_goF (by simp only [go_sem, Nat.reduceEqDiff, Nat.reduceAdd, Nat.reduceLeDiff, e1, hq, h1]; first | done | rfl) ?_
    | refine w_condT (by simp only [go_sem, Nat.reduceEqDiff, Nat.reduceAdd, Nat.reduceLeDiff, e1, hq, h1]; first | done | rfl) ?_
    | refine w_condF (by simp only [go_sem, Nat.reduceEqDiff, Nat.reduceAdd, Nat.reduceLeDiff, e1, hq, h1]; first | done | rfl) ?_
    | refine w_skip ?_
    | refine w_exit ?_
    | refine w_ret ?_
    )
  exact ⟨by first | exact .inl rfl | exact .inl trivial, _, rfl, rfl, h2⟩

theorem a135e (O : Has lo env) {q : Int} (hq : AV env 141 [.sc (.int .u64 0)] = some (.sc (.int .i64 q))) : EV env 135 [.em, .fn 136 [] []] σ = some (.tu [], σ) := by
  have h1 := a140e (σ := σ) O q
  have e1 : IntKind.u64.wrap 0 = 0 := by decide
  refine EV_wp (O (135, d135) (by simp [lo])) rfl ?_
  (repeat' first
    | refine w_seq ?_
    | refine w_rg ?_
    | refine wo_nil ?_
    | refine s_plain (by simp only [go_sem, Nat.reduceEqDiff, Nat.reduceAdd, Nat.reduceLeDiff, e1, hq, h1]; first | done | rfl) ?_
    | refine s_void (by simp only [go_sem, Nat.reduceEqDiff, Nat.reduceAdd, Nat.reduceLeDiff, e1, hq, h1]; first | done | rfl) ?_
    | refine s_guard (by simp only [go_sem, Nat.reduceEqDiff, Nat.reduceAdd, Nat.reduceLeDiff, e1, hq, h1]; first | done | rfl) ?_
    | refine g_skU ?_
    | refine g_T (by intro hb; simp only [go_sem, Nat.reduceEqDiff, Nat.reduceAdd, Nat.reduceLeDiff, e1, hq, h1, hb]; first | done | rfl) ?_
    | refine g_F (by intro hb; simp only [go_sem, Nat.reduceEqDiff, Nat.reduceAdd, Nat.reduceLeDiff, e1, hq, h1, hb]; first | done | rfl) ?_
    | refine g_gT (by intro hb hc; simp only [go_sem, Nat.reduceEqDiff, Nat.reduceAdd, Nat.reduceLeDiff, e1, hq, h1, hb, hc]; first | done | rfl) ?_
    | refine g_gF (by intro hb hc; simp only [go_sem, Nat.reduceEqDiff, Nat.reduceAdd, Nat.reduceLeDiff, e1, hq, h1, hb, hc]; first | done | rfl) ?_
    | refine g_skT ?_
    | refine g_skF ?_
    | refine g_goT (by simp only [go_sem, Nat.reduceEqDiff, Nat.reduceAdd, Nat.reduceLeDiff, e1, hq, h1]; first | done | rfl) ?_
    | refine g_goF (by simp only [go_sem, Nat.reduceEqDiff, Nat.reduceAdd, Nat.reduceLeDiff, e1, hq, h1]; first | done | rfl) ?_
    | refine w_condT (by simp only [go_sem, Nat.reduceEqDiff, Nat.reduceAdd, Nat.reduceLeDiff, e1, hq, h1]; first | done | rfl) ?_
    | refine w_condF (by simp only [go_sem, Nat.reduceEqDiff, Nat.reduceAdd, Nat.reduceLeDiff, e1, hq, h1]; first | done | rfl) ?_
    | refine w_skip ?_
    | refine w_exit ?_
    | refine w_ret ?_
    )
  exact ⟨by first | exact .inl rfl | exact .inl trivial, by first | rfl | trivial, by first | rfl | trivial⟩

end
end Go.Proofs.YtjijlmfhnkipmaaDoorPv
