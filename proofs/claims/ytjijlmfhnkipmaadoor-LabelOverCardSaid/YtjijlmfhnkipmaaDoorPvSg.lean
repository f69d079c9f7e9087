/-
What functions answer: rules.
-/
import Derived.Test.YtjijlmfhnkipmaaDoorPvSf
namespace Go.Proofs.YtjijlmfhnkipmaaDoorPv
open Go
set_option linter.unusedSimpArgs false
set_option linter.unusedVariables false
set_option maxHeartbeats 4000000
attribute [local go_sem ↓] e_mv e_pick e_bin e_eqs e_beq e_un e_cvi e_str e_s2b e_b2s e_box e_build e_bsl e_ld e_st e_nck e_mkf e_slcS e_slcL e_fa e_fld e_ia e_iaa e_ix e_ixa e_ext e_lenS e_lenL e_mnmx e_app e_msl e_clr e_call e_callv pa_t pa_c pa_f slcSP_str hiOf_some hiOf_none loOf_some loOf_none set_eq set_ne
attribute [local go_sem] pv pv1 simple frOf_0 frOf_1 frOf_2 frOf_3 frOf_4 frOf_5 ne_eq not_false_eq_true if_true Bool.false_eq_true if_false pbin punary Option.map_some Option.bind_some pick_and pick_or opt_true Bool.true_and Bool.and_self Bool.and_true Bool.true_or Bool.false_or Bool.not_true Bool.not_false callE pcall_eq List.map_cons List.map_nil List.append_nil List.nil_append List.cons_append mapM_cons' mapM_nil' dep_eq fz_sc fz_sl fz_em fz_fn fz_fp fz_agg fz_bx fz_ob Nat.lt_irrefl Nat.zero_lt_one Nat.lt_add_one flat clL cl Bool.or_true okc cells_agg cells_sc cells_sl cells_em cells_ob cells_fn cells_bx cells_fp List.length_cons List.length_nil Nat.zero_add and_self true_and and_true new_m new_c put_m put_c nil_m nil_c deref List.getElem?_cons_zero List.getElem?_cons_succ List.drop_zero List.drop_succ_cons List.take_succ_cons List.take_zero Nat.le_refl false_and and_false
set_option maxRecDepth 8000

/-- transhipment/rules.Right -/
def d105 : Def := (.code 1 [.tmp 2] (.seq (.rg false [⟨.some 1, .none, .box (.t 0)⟩, ⟨.some 2, .none, .mv (.c (.bool false))⟩]) (.seq (.rg false [⟨.some 5, .none, .fa 0 (.t 1)⟩, ⟨.some 6, .none, .ld .none (.t 5)⟩, ⟨.some 7, .none, .call 111 .pure [.t 6]⟩, ⟨.some 8, .none, .mv (.t 7)⟩, ⟨.some 9, .some (8, true), .fa 1 (.t 1)⟩, ⟨.some 10, .some (8, true), .ld .none (.t 9)⟩, ⟨.some 11, .some (8, true), .call 111 .pure [.t 10]⟩, ⟨.some 12, .none, .pick (.t 8) (.t 11) (.c (.bool false))⟩, ⟨.some 13, .none, .mv (.t 12)⟩, ⟨.some 14, .some (13, true), .fa 2 (.t 1)⟩, ⟨.some 15, .some (13, true), .ld .none (.t 14)⟩, ⟨.some 16, .some (13, true), .bin .geq (.t 15) (.c (.int .i64 1))⟩, ⟨.some 17, .none, .pick (.t 13) (.t 16) (.c (.bool false))⟩, ⟨.some 18, .none, .mv (.t 17)⟩, ⟨.some 19, .some (18, true), .fa 2 (.t 1)⟩, ⟨.some 20, .some (18, true), .ld .none (.t 19)⟩, ⟨.some 21, .some (18, true), .bin .leq (.t 20) (.c (.int .i64 5))⟩, ⟨.some 22, .none, .pick (.t 18) (.t 21) (.c (.bool false))⟩, ⟨.some 3, .none, .mv (.t 22)⟩]) (.seq (.rg false [⟨.some 23, .none, .fa 4 (.t 1)⟩, ⟨.some 24, .none, .ld .none (.t 23)⟩, ⟨.some 25, .none, .call 112 .pure [.t 24]⟩, ⟨.some 26, .none, .mv (.t 25)⟩, ⟨.some 27, .some (26, true), .fa 5 (.t 1)⟩, ⟨.some 28, .some (26, true), .ld .none (.t 27)⟩, ⟨.some 29, .some (26, true), .call 112 .pure [.t 28]⟩, ⟨.some 30, .none, .pick (.t 26) (.t 29) (.c (.bool false))⟩, ⟨.some 31, .none, .mv (.t 30)⟩, ⟨.some 32, .some (31, true), .fa 6 (.t 1)⟩, ⟨.some 33, .some (31, true), .ld .none (.t 32)⟩, ⟨.some 34, .some (31, true), .bin .geq (.t 33) (.c (.int .i64 1))⟩, ⟨.some 35, .none, .pick (.t 31) (.t 34) (.c (.bool false))⟩, ⟨.some 36, .none, .mv (.t 35)⟩, ⟨.some 37, .some (36, true), .fa 6 (.t 1)⟩, ⟨.some 38, .some (36, true), .ld .none (.t 37)⟩, ⟨.some 39, .some (36, true), .bin .leq (.t 38) (.c (.int .i64 10))⟩, ⟨.some 40, .none, .pick (.t 36) (.t 39) (.c (.bool false))⟩, ⟨.some 4, .none, .mv (.t 40)⟩]) (.seq (.rg false [⟨.some 41, .none, .mv (.t 3)⟩, ⟨.some 42, .none, .mv (.t 41)⟩, ⟨.some 43, .some (42, true), .mv (.t 4)⟩, ⟨.some 44, .none, .pick (.t 42) (.t 43) (.c (.bool false))⟩, ⟨.some 45, .none, .mv (.t 44)⟩, ⟨.some 46, .some (45, true), .fa 3 (.t 1)⟩, ⟨.some 47, .some (45, true), .ld .none (.t 46)⟩, ⟨.some 48, .some (45, true), .bin .geq (.t 47) (.c (.int .i64 (-1099511627776)))⟩, ⟨.some 49, .none, .pick (.t 45) (.t 48) (.c (.bool false))⟩, ⟨.some 50, .none, .mv (.t 49)⟩, ⟨.some 51, .some (50, true), .fa 3 (.t 1)⟩, ⟨.some 52, .some (50, true), .ld .none (.t 51)⟩, ⟨.some 53, .some (50, true), .bin .leq (.t 52) (.c (.int .i64 1099511627776))⟩, ⟨.some 54, .none, .pick (.t 50) (.t 53) (.c (.bool false))⟩, ⟨.some 55, .none, .mv (.t 54)⟩, ⟨.some 56, .some (55, true), .fa 7 (.t 1)⟩, ⟨.some 57, .some (55, true), .ld .none (.t 56)⟩, ⟨.some 58, .some (55, true), .lenL (.t 57)⟩, ⟨.some 59, .some (55, true), .bin .leq (.t 58) (.c (.int .i64 4))⟩, ⟨.some 60, .none, .pick (.t 55) (.t 59) (.c (.bool false))⟩, ⟨.some 61, .none, .mv (.t 60)⟩, ⟨.some 62, .some (61, true), .fa 7 (.t 1)⟩, ⟨.some 63, .some (61, true), .ld .none (.t 62)⟩, ⟨.some 64, .some (61, true), .call 113 .pure [.t 63]⟩, ⟨.some 65, .none, .pick (.t 61) (.t 64) (.c (.bool false))⟩, ⟨.some 66, .none, .mv (.t 65)⟩, ⟨.some 67, .some (66, true), .fa 7 (.t 1)⟩, ⟨.some 68, .some (66, true), .ld .none (.t 67)⟩, ⟨.some 69, .some (66, true), .call 114 .pure [.t 68, .c (.string ⟨#[97, 108, 101, 114, 116]⟩)]⟩, ⟨.some 70, .some (66, true), .bin .eql (.t 69) (.c (.string ⟨#[]⟩))⟩, ⟨.some 71, .none, .pick (.t 66) (.t 70) (.c (.bool false))⟩, ⟨.some 2, .none, .mv (.t 71)⟩]) .ret)))))
/-- transhipment/rules.ways -/
def d115 : Def := (.code 0 [.cell 0 (.some 12)] (.seq (.rg false [⟨.some 0, .none, .box (.c (.agg #[.string ⟨#[]⟩, .nilFunc, .string ⟨#[]⟩, .nilFunc, .string ⟨#[]⟩, .nilFunc, .string ⟨#[]⟩, .nilFunc, .string ⟨#[]⟩, .nilFunc, .string ⟨#[]⟩, .nilFunc]))⟩]) (.seq (.rg false [⟨.some 1, .none, .build (.agg #[.string ⟨#[]⟩, .nilFunc]) [(0, (1, .c (.string ⟨#[62]⟩))), (1, (1, .f 123))]⟩, ⟨.some 2, .none, .build (.agg #[.string ⟨#[]⟩, .nilFunc]) [(0, (1, .c (.string ⟨#[62, 61]⟩))), (1, (1, .f 124))]⟩, ⟨.some 3, .none, .build (.agg #[.string ⟨#[]⟩, .nilFunc]) [(0, (1, .c (.string ⟨#[60]⟩))), (1, (1, .f 125))]⟩, ⟨.some 4, .none, .build (.agg #[.string ⟨#[]⟩, .nilFunc]) [(0, (1, .c (.string ⟨#[60, 61]⟩))), (1, (1, .f 126))]⟩, ⟨.some 5, .none, .build (.agg #[.string ⟨#[]⟩, .nilFunc]) [(0, (1, .c (.string ⟨#[61, 61]⟩))), (1, (1, .f 127))]⟩, ⟨.some 6, .none, .build (.agg #[.string ⟨#[]⟩, .nilFunc, .string ⟨#[]⟩, .nilFunc, .string ⟨#[]⟩, .nilFunc, .string ⟨#[]⟩, .nilFunc, .string ⟨#[]⟩, .nilFunc, .string ⟨#[]⟩, .nilFunc]) [(2, (2, .t 1)), (4, (2, .t 2)), (6, (2, .t 3)), (8, (2, .t 4)), (10, (2, .t 5))]⟩, ⟨.none, .none, .st 12 (.t 0) (.t 6)⟩]) .ret)))
/-- transhipment/rules.ways$1 -/
def d123 : Def := (.code 2 [.tmp 4] (.seq (.rg false [⟨.some 4, .none, .mv (.c (.bool false))⟩]) (.seq (.rg false [⟨.some 5, .none, .mv (.t 0)⟩, ⟨.some 6, .none, .mv (.t 1)⟩, ⟨.some 7, .none, .bin .gtr (.t 5) (.t 6)⟩, ⟨.some 4, .none, .mv (.t 7)⟩]) .ret)))
/-- transhipment/rules.ways$2 -/
def d124 : Def := (.code 2 [.tmp 4] (.seq (.rg false [⟨.some 4, .none, .mv (.c (.bool false))⟩]) (.seq (.rg false [⟨.some 5, .none, .mv (.t 0)⟩, ⟨.some 6, .none, .mv (.t 1)⟩, ⟨.some 7, .none, .bin .geq (.t 5) (.t 6)⟩, ⟨.some 4, .none, .mv (.t 7)⟩]) .ret)))
/-- transhipment/rules.ways$3 -/
def d125 : Def := (.code 2 [.tmp 4] (.seq (.rg false [⟨.some 4, .none, .mv (.c (.bool false))⟩]) (.seq (.rg false [⟨.some 5, .none, .mv (.t 0)⟩, ⟨.some 6, .none, .mv (.t 1)⟩, ⟨.some 7, .none, .bin .lss (.t 5) (.t 6)⟩, ⟨.some 4, .none, .mv (.t 7)⟩]) .ret)))
/-- transhipment/rules.ways$4 -/
def d126 : Def := (.code 2 [.tmp 4] (.seq (.rg false [⟨.some 4, .none, .mv (.c (.bool false))⟩]) (.seq (.rg false [⟨.some 5, .none, .mv (.t 0)⟩, ⟨.some 6, .none, .mv (.t 1)⟩, ⟨.some 7, .none, .bin .leq (.t 5) (.t 6)⟩, ⟨.some 4, .none, .mv (.t 7)⟩]) .ret)))
/-- transhipment/rules.ways$5 -/
def d127 : Def := (.code 2 [.tmp 4] (.seq (.rg false [⟨.some 4, .none, .mv (.c (.bool false))⟩]) (.seq (.rg false [⟨.some 5, .none, .mv (.t 0)⟩, ⟨.some 6, .none, .mv (.t 1)⟩, ⟨.some 7, .none, .bin .eql (.t 5) (.t 6)⟩, ⟨.some 4, .none, .mv (.t 7)⟩]) .ret)))
/-- transhipment/rules.Fires -/
def d107 : Def := (.code 2 [.tmp 4] (.seq (.rg false [⟨.some 2, .none, .box (.t 0)⟩, ⟨.some 4, .none, .mv (.c (.bool false))⟩]) (.seq (.rg true [⟨.some 5, .none, .ld (.some 8) (.t 2)⟩, ⟨.some 6, .none, .call 105 .strict [.t 5]⟩, ⟨.some 7, .none, .mv (.t 6)⟩, ⟨.some 8, .some (7, true), .call 115 .strict []⟩, ⟨.some 9, .some (7, true), .fa 2 (.t 2)⟩, ⟨.some 10, .some (7, true), .ld .none (.t 9)⟩, ⟨.some 11, .some (7, true), .ixa 2 6 (.some 2) (.t 8) (.t 10)⟩, ⟨.some 12, .some (7, true), .fld 1 .none (.t 11)⟩, ⟨.some 13, .some (7, true), .mv (.t 1)⟩, ⟨.some 14, .some (7, true), .fa 3 (.t 2)⟩, ⟨.some 15, .some (7, true), .ld .none (.t 14)⟩, ⟨.some 16, .some (7, true), .callv (.t 12) .strict [.t 13, .t 15]⟩, ⟨.some 17, .none, .pick (.t 7) (.t 16) (.c (.bool false))⟩, ⟨.some 4, .none, .mv (.t 17)⟩]) .ret)))

def lg : List (Nat × Def) := [(105, d105), (115, d115), (123, d123), (124, d124), (125, d125), (126, d126), (127, d127), (107, d107)]

structure Rule where
  name : ByteArray
  metric : ByteArray
  how : Int
  limit : Int
  for_ : Int
  keep : Int
  tries : Int
  labels : List Lab

def int (n : Int) : PV := .sc (.int .i64 n)
def rule (r : Rule) : PV := .agg [.sc (.string r.name), .sc (.string r.metric), .sc (.int .i64 r.how), .sc (.int .i64 r.limit), .sc (.int .i64 r.for_), .sc (.int .i64 r.keep), .sc (.int .i64 r.tries), .sl (labs r.labels)]

structure Rule.Fits (r : Rule) : Prop where
  n : Small r.name
  m : Small r.metric
  l : r.labels.length ≤ 9223372036854775807
  s : Smalls r.labels

section
variable {env : Nat → Option Def} {fr : Fr} {σ : St} {K : Fr → St → Prop}

def alertT : ByteArray := ⟨#[97, 108, 101, 114, 116]⟩
def timeB (n : Int) : Bool := decide (n ≥ 0) && decide (n ≤ 1099511627776)
def restR (r : Rule) : Bool := timeB r.for_ && timeB r.keep && decide (r.tries ≥ 1) && decide (r.tries ≤ 10)
def rightR (r : Rule) : Bool := (wordB r.name && wordB r.metric && decide (r.how ≥ 1) && decide (r.how ≤ 5)) && restR r && decide (r.limit ≥ -1099511627776) && decide (r.limit ≤ 1099511627776) && decide ((r.labels.length : Int) ≤ 4) && rightL r.labels && (getB r.labels alertT).toList == (⟨#[]⟩ : ByteArray).toList

theorem a105 (H : Has la env) (G : Has lc env) (F : Has lf env) (I : Has lg env) {r : Rule} (hr : r.Fits) : AV env 105 [rule r] = some (.sc (.bool (rightR r))) := by
  have h1 := a111 H F hr.n
  have h2 := a111 H F hr.m
  have h3 := a112 H r.for_
  have h4 := a112 H r.keep
  have h5 := a113 (la_la0 H) G hr.l hr.s
  have h6 := a114 G (l := r.labels) (n := alertT) hr.l
  have hll := labs_len r.labels
  refine AV_wp (I (105, d105) (by simp [lg])) rfl ?_
  unfold rule
  unfold alertT at h6
  (repeat' first
    | refine w_seq ?_
    | refine w_rg ?_
    | refine wo_nil ?_
    | refine s_plain (by simp only [go_sem, Nat.reduceEqDiff, Nat.reduceAdd, Nat.reduceLeDiff, h1, h2, h3, h4, h5, h6, hll]; first | done | rfl) ?_
    | refine s_void (by simp only [go_sem, Nat.reduceEqDiff, Nat.reduceAdd, Nat.reduceLeDiff, h1, h2, h3, h4, h5, h6, hll]; first | done | rfl) ?_
    | refine s_guard (by simp only [go_sem, Nat.reduceEqDiff, Nat.reduceAdd, Nat.reduceLeDiff, h1, h2, h3, h4, h5, h6, hll]; first | done | rfl) ?_
    | refine g_skU ?_
    | refine g_T (by intro hb; simp only [go_sem, Nat.reduceEqDiff, Nat.reduceAdd, Nat.reduceLeDiff, h1, h2, h3, h4, h5, h6, hll, hb]; first | done | rfl) ?_
    | refine g_F (by intro hb; simp only [go_sem, Nat.reduceEqDiff, Nat.reduceAdd, Nat.reduceLeDiff, h1, h2, h3, h4, h5, h6, hll, hb]; first | done | rfl) ?_
    | refine g_gT (by intro hb hc; simp only [go_sem, Nat.reduceEqDiff, Nat.reduceAdd, Nat.reduceLeDiff, h1, h2, h3, h4, h5, h6, hll, hb, hc]; first | done | rfl) ?_
    | refine g_gF (by intro hb hc; simp only [go_sem, Nat.reduceEqDiff, Nat.reduceAdd, Nat.reduceLeDiff, h1, h2, h3, h4, h5, h6, hll, hb, hc]; first | done | rfl) ?_
    | refine g_skT ?_
    | refine g_skF ?_
    | refine g_goT (by simp only [go_sem, Nat.reduceEqDiff, Nat.reduceAdd, Nat.reduceLeDiff, h1, h2, h3, h4, h5, h6, hll]; first | done | rfl) ?_
    | refine g_goF (by simp only [go_sem, Nat.reduceEqDiff, Nat.reduceAdd, Nat.reduceLeDiff, h1, h2, h3, h4, h5, h6, hll]; first | done | rfl) ?_
    | refine w_condT (by simp only [go_sem, Nat.reduceEqDiff, Nat.reduceAdd, Nat.reduceLeDiff, h1, h2, h3, h4, h5, h6, hll]; first | done | rfl) ?_
    | refine w_condF (by simp only [go_sem, Nat.reduceEqDiff, Nat.reduceAdd, Nat.reduceLeDiff, h1, h2, h3, h4, h5, h6, hll]; first | done | rfl) ?_
    | refine w_skip ?_
    | refine w_exit ?_
    | refine w_ret ?_
    )
  refine ⟨.inr rfl, ?_⟩
  simp only [go_sem, Nat.reduceEqDiff, Nat.reduceAdd, Nat.reduceLeDiff, retOf, resOf]

  rfl

theorem a123 (I : Has lg env) (v m : Int) : AV env 123 [.sc (.int .i64 v), .sc (.int .i64 m)] = some (.sc (.bool (decide (v > m)))) := by
  refine AV_wp (I (123, d123) (by simp [lg])) rfl ?_
  (repeat' first
    | refine w_seq ?_
    | refine w_rg ?_
    | refine wo_nil ?_
    | refine s_plain (by simp only [go_sem, Nat.reduceEqDiff, Nat.reduceAdd, Nat.reduceLeDiff]; first | done | rfl) ?_
    | refine s_void (by simp only [go_sem, Nat.reduceEqDiff, Nat.reduceAdd, Nat.reduceLeDiff]; first | done | rfl) ?_
    | refine s_guard (by simp only [go_sem, Nat.reduceEqDiff, Nat.reduceAdd, Nat.reduceLeDiff]; first | done | rfl) ?_
    | refine g_skU ?_
    | refine g_T (by intro hb; simp only [go_sem, Nat.reduceEqDiff, Nat.reduceAdd, Nat.reduceLeDiff, hb]; first | done | rfl) ?_
    | refine g_F (by intro hb; simp only [go_sem, Nat.reduceEqDiff, Nat.reduceAdd, Nat.reduceLeDiff, hb]; first | done | rfl) ?_
    | refine g_gT (by intro hb hc; simp only [go_sem, Nat.reduceEqDiff, Nat.reduceAdd, Nat.reduceLeDiff, hb, hc]; first | done | rfl) ?_
    | refine g_gF (by intro hb hc; simp only [go_sem, Nat.reduceEqDiff, Nat.reduceAdd, Nat.reduceLeDiff, hb, hc]; first | done | rfl) ?_
    | refine g_skT ?_
    | refine g_skF ?_
    | refine g_goT (by simp only [go_sem, Nat.reduceEqDiff, Nat.reduceAdd, Nat.reduceLeDiff]; first | done | rfl) ?_
    | refine g_goF (by simp only [go_sem, Nat.reduceEqDiff, Nat.reduceAdd, Nat.reduceLeDiff]; first | done | rfl) ?_
    | refine w_condT (by simp only [go_sem, Nat.reduceEqDiff, Nat.reduceAdd, Nat.reduceLeDiff]; first | done | rfl) ?_
    | refine w_condF (by simp only [go_sem, Nat.reduceEqDiff, Nat.reduceAdd, Nat.reduceLeDiff]; first | done | rfl) ?_
    | refine w_skip ?_
    | refine w_exit ?_
    | refine w_ret ?_
    )
  exact ⟨.inr rfl, by simp only [go_sem, Nat.reduceEqDiff, Nat.reduceAdd, Nat.reduceLeDiff, retOf, resOf]⟩
theorem a124 (I : Has lg env) (v m : Int) : AV env 124 [.sc (.int .i64 v), .sc (.int .i64 m)] = some (.sc (.bool (decide (v ≥ m)))) := by
  refine AV_wp (I (124, d124) (by simp [lg])) rfl ?_
  (repeat' first
    | refine w_seq ?_
    | refine w_rg ?_
    | refine wo_nil ?_
    | refine s_plain (by simp only [go_sem, Nat.reduceEqDiff, Nat.reduceAdd, Nat.reduceLeDiff]; first | done | rfl) ?_
    | refine s_void (by simp only [go_sem, Nat.reduceEqDiff, Nat.reduceAdd, Nat.reduceLeDiff]; first | done | rfl) ?_
    | refine s_guard (by simp only [go_sem, Nat.reduceEqDiff, Nat.reduceAdd, Nat.reduceLeDiff]; first | done | rfl) ?_
    | refine g_skU ?_
    | refine g_T (by intro hb; simp only [go_sem, Nat.reduceEqDiff, Nat.reduceAdd, Nat.reduceLeDiff, hb]; first | done | rfl) ?_
    | refine g_F (by intro hb; simp only [go_sem, Nat.reduceEqDiff, Nat.reduceAdd, Nat.reduceLeDiff, hb]; first | done | rfl) ?_
    | refine g_gT (by intro hb hc; simp only [go_sem, Nat.reduceEqDiff, Nat.reduceAdd, Nat.reduceLeDiff, hb, hc]; first | done | rfl) ?_
    | refine g_gF (by intro hb hc; simp only [go_sem, Nat.reduceEqDiff, Nat.reduceAdd, Nat.reduceLeDiff, hb, hc]; first | done | rfl) ?_
    | refine g_skT ?_
    | refine g_skF ?_
    | refine g_goT (by simp only [go_sem, Nat.reduceEqDiff, Nat.reduceAdd, Nat.reduceLeDiff]; first | done | rfl) ?_
    | refine g_goF (by simp only [go_sem, Nat.reduceEqDiff, Nat.reduceAdd, Nat.reduceLeDiff]; first | done | rfl) ?_
    | refine w_condT (by simp only [go_sem, Nat.reduceEqDiff, Nat.reduceAdd, Nat.reduceLeDiff]; first | done | rfl) ?_
    | refine w_condF (by simp only [go_sem, Nat.reduceEqDiff, Nat.reduceAdd, Nat.reduceLeDiff]; first | done | rfl) ?_
    | refine w_skip ?_
    | refine w_exit ?_
    | refine w_ret ?_
    )
  exact ⟨.inr rfl, by simp only [go_sem, Nat.reduceEqDiff, Nat.reduceAdd, Nat.reduceLeDiff, retOf, resOf]⟩
theorem a125 (I : Has lg env) (v m : Int) : AV env 125 [.sc (.int .i64 v), .sc (.int .i64 m)] = some (.sc (.bool (decide (v < m)))) := by
  refine AV_wp (I (125, d125) (by simp [lg])) rfl ?_
  (repeat' first
    | refine w_seq ?_
    | refine w_rg ?_
    | refine wo_nil ?_
    | refine s_plain (by simp only [go_sem, Nat.reduceEqDiff, Nat.reduceAdd, Nat.reduceLeDiff]; first | done | rfl) ?_
    | refine s_void (by simp only [go_sem, Nat.reduceEqDiff, Nat.reduceAdd, Nat.reduceLeDiff]; first | done | rfl) ?_
    | refine s_guard (by simp only [go_sem, Nat.reduceEqDiff, Nat.reduceAdd, Nat.reduceLeDiff]; first | done | rfl) ?_
    | refine g_skU ?_
    | refine g_T (by intro hb; simp only [go_sem, Nat.reduceEqDiff, Nat.reduceAdd, Nat.reduceLeDiff, hb]; first | done | rfl) ?_
    | refine g_F (by intro hb; simp only [go_sem, Nat.reduceEqDiff, Nat.reduceAdd, Nat.reduceLeDiff, hb]; first | done | rfl) ?_
    | refine g_gT (by intro hb hc; simp only [go_sem, Nat.reduceEqDiff, Nat.reduceAdd, Nat.reduceLeDiff, hb, hc]; first | done | rfl) ?_
    | refine g_gF (by intro hb hc; simp only [go_sem, Nat.reduceEqDiff, Nat.reduceAdd, Nat.reduceLeDiff, hb, hc]; first | done | rfl) ?_
    | refine g_skT ?_
    | refine g_skF ?_
    | refine g_goT (by simp only [go_sem, Nat.reduceEqDiff, Nat.reduceAdd, Nat.reduceLeDiff]; first | done | rfl) ?_
    | refine g_goF (by simp only [go_sem, Nat.reduceEqDiff, Nat.reduceAdd, Nat.reduceLeDiff]; first | done | rfl) ?_
    | refine w_condT (by simp only [go_sem, Nat.reduceEqDiff, Nat.reduceAdd, Nat.reduceLeDiff]; first | done | rfl) ?_
    | refine w_condF (by simp only [go_sem, Nat.reduceEqDiff, Nat.reduceAdd, Nat.reduceLeDiff]; first | done | rfl) ?_
    | refine w_skip ?_
    | refine w_exit ?_
    | refine w_ret ?_
    )
  exact ⟨.inr rfl, by simp only [go_sem, Nat.reduceEqDiff, Nat.reduceAdd, Nat.reduceLeDiff, retOf, resOf]⟩
theorem a126 (I : Has lg env) (v m : Int) : AV env 126 [.sc (.int .i64 v), .sc (.int .i64 m)] = some (.sc (.bool (decide (v ≤ m)))) := by
  refine AV_wp (I (126, d126) (by simp [lg])) rfl ?_
  (repeat' first
    | refine w_seq ?_
    | refine w_rg ?_
    | refine wo_nil ?_
    | refine s_plain (by simp only [go_sem, Nat.reduceEqDiff, Nat.reduceAdd, Nat.reduceLeDiff]; first | done | rfl) ?_
    | refine s_void (by simp only [go_sem, Nat.reduceEqDiff, Nat.reduceAdd, Nat.reduceLeDiff]; first | done | rfl) ?_
    | refine s_guard (by simp only [go_sem, Nat.reduceEqDiff, Nat.reduceAdd, Nat.reduceLeDiff]; first | done | rfl) ?_
    | refine g_skU ?_
    | refine g_T (by intro hb; simp only [go_sem, Nat.reduceEqDiff, Nat.reduceAdd, Nat.reduceLeDiff, hb]; first | done | rfl) ?_
    | refine g_F (by intro hb; simp only [go_sem, Nat.reduceEqDiff, Nat.reduceAdd, Nat.reduceLeDiff, hb]; first | done | rfl) ?_
    | refine g_gT (by intro hb hc; simp only [go_sem, Nat.reduceEqDiff, Nat.reduceAdd, Nat.reduceLeDiff, hb, hc]; first | done | rfl) ?_
    | refine g_gF (by intro hb hc; simp only [go_sem, Nat.reduceEqDiff, Nat.reduceAdd, Nat.reduceLeDiff, hb, hc]; first | done | rfl) ?_
    | refine g_skT ?_
    | refine g_skF ?_
    | refine g_goT (by simp only [go_sem, Nat.reduceEqDiff, Nat.reduceAdd, Nat.reduceLeDiff]; first | done | rfl) ?_
    | refine g_goF (by simp only [go_sem, Nat.reduceEqDiff, Nat.reduceAdd, Nat.reduceLeDiff]; first | done | rfl) ?_
    | refine w_condT (by simp only [go_sem, Nat.reduceEqDiff, Nat.reduceAdd, Nat.reduceLeDiff]; first | done | rfl) ?_
    | refine w_condF (by simp only [go_sem, Nat.reduceEqDiff, Nat.reduceAdd, Nat.reduceLeDiff]; first | done | rfl) ?_
    | refine w_skip ?_
    | refine w_exit ?_
    | refine w_ret ?_
    )
  exact ⟨.inr rfl, by simp only [go_sem, Nat.reduceEqDiff, Nat.reduceAdd, Nat.reduceLeDiff, retOf, resOf]⟩
theorem a127 (I : Has lg env) (v m : Int) : AV env 127 [.sc (.int .i64 v), .sc (.int .i64 m)] = some (.sc (.bool (v == m))) := by
  refine AV_wp (I (127, d127) (by simp [lg])) rfl ?_
  (repeat' first
    | refine w_seq ?_
    | refine w_rg ?_
    | refine wo_nil ?_
    | refine s_plain (by simp only [go_sem, Nat.reduceEqDiff, Nat.reduceAdd, Nat.reduceLeDiff]; first | done | rfl) ?_
    | refine s_void (by simp only [go_sem, Nat.reduceEqDiff, Nat.reduceAdd, Nat.reduceLeDiff]; first | done | rfl) ?_
    | refine s_guard (by simp only [go_sem, Nat.reduceEqDiff, Nat.reduceAdd, Nat.reduceLeDiff]; first | done | rfl) ?_
    | refine g_skU ?_
    | refine g_T (by intro hb; simp only [go_sem, Nat.reduceEqDiff, Nat.reduceAdd, Nat.reduceLeDiff, hb]; first | done | rfl) ?_
    | refine g_F (by intro hb; simp only [go_sem, Nat.reduceEqDiff, Nat.reduceAdd, Nat.reduceLeDiff, hb]; first | done | rfl) ?_
    | refine g_gT (by intro hb hc; simp only [go_sem, Nat.reduceEqDiff, Nat.reduceAdd, Nat.reduceLeDiff, hb, hc]; first | done | rfl) ?_
    | refine g_gF (by intro hb hc; simp only [go_sem, Nat.reduceEqDiff, Nat.reduceAdd, Nat.reduceLeDiff, hb, hc]; first | done | rfl) ?_
    | refine g_skT ?_
    | refine g_skF ?_
    | refine g_goT (by simp only [go_sem, Nat.reduceEqDiff, Nat.reduceAdd, Nat.reduceLeDiff]; first | done | rfl) ?_
    | refine g_goF (by simp only [go_sem, Nat.reduceEqDiff, Nat.reduceAdd, Nat.reduceLeDiff]; first | done | rfl) ?_
    | refine w_condT (by simp only [go_sem, Nat.reduceEqDiff, Nat.reduceAdd, Nat.reduceLeDiff]; first | done | rfl) ?_
    | refine w_condF (by simp only [go_sem, Nat.reduceEqDiff, Nat.reduceAdd, Nat.reduceLeDiff]; first | done | rfl) ?_
    | refine w_skip ?_
    | refine w_exit ?_
    | refine w_ret ?_
    )
  exact ⟨.inr rfl, by simp only [go_sem, Nat.reduceEqDiff, Nat.reduceAdd, Nat.reduceLeDiff, retOf, resOf]⟩

end
end Go.Proofs.YtjijlmfhnkipmaaDoorPv
